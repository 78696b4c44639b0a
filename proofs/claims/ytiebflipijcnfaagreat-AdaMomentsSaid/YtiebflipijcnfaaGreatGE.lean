/-
  div.taken: a digit's multiple is taken from a window of the row, and given back where it was too much.
  Plain law: a digit of the long division, by a guess out of three limbs over two.
  div.DivMod: by nought, a lesser one, by one limb.
  div.DivMod: by a divisor of two limbs or more.
  div.DivMod and div.Gcd, whatever the numbers.
  Plain mathematics of roots of natural numbers.
-/
import Derived.Test.YtiebflipijcnfaaGreatMathE
import Derived.Test.YtiebflipijcnfaaGreatGuess
import Derived.Test.YtiebflipijcnfaaGreatDivE
namespace Go.Rt
open Go.RowKit Go.Proofs
theorem grown_refl (w:World) (row:Option Nat):w.grownBy w row:=⟨rfl,rfl,rfl,Nat.le_refl _,fun _ _ _=>rfl⟩
theorem grown_trans {a b c:World} {row:Option Nat} (h:a.grownBy b row) (k:b.grownBy c row):a.grownBy c row:=
 ⟨k.os.trans h.os,k.tape.trans h.tape,k.output.trans h.output,Nat.le_trans h.size k.size,fun i hi hn=>(k.block i (Nat.lt_of_lt_of_le hi h.size) hn).trans (h.block i hi hn)⟩
theorem grown_set (W:World) (b i:Nat) (v:Value):W.grownBy (W.setCell ⟨b,i,none⟩ v) (some b):=
 ⟨rfl,rfl,rfl,by simp,fun k _ hk=>Below.heap_setCell W ⟨b,i,none⟩ v k (fun e=>hk (by rw[e]))⟩
def win (R:List Nat) (o k:Nat):Nat:=ev B64 ((R.drop o).take k)
theorem win_zero (R:List Nat) (o:Nat):win R o 0=0:=by simp[win]
theorem win_succ (R:List Nat) (o k:Nat):win R o (k+1)=win R o k+B64^k*R.getD (o+k) 0:=by
 unfold win
 rw[ev_take_succ',List.getD_eq_getElem?_getD,List.getD_eq_getElem?_getD,List.getElem?_drop]
theorem win_same {R R':List Nat} {o:Nat}:∀ {k:Nat},(∀ i,i < k→R'.getD (o+i) 0=R.getD (o+i) 0)→win R' o k=win R o k
 | 0,_=>by rw[win_zero,win_zero]
 | k+1,h=>by rw[win_succ,win_succ,win_same (fun i hi=>h i (by omega)),h k (by omega)]
theorem win_set {R:List Nat} {o k j x:Nat} (h:k≤j):win (R.set (o+j) x) o k=win R o k:=
 win_same fun i hi=>getD_set_ne (by omega)
theorem win_lt {R:List Nat} (h:Lim B64 R) (o:Nat):∀ k,win R o k < B64^k
 | 0=>by rw[win_zero];exact Nat.one_pos
 | k+1=>by
  rw[win_succ,Nat.pow_succ]
  have h1:=win_lt h o k
  have h2:=h.getD B64_pos (o+k)
  have h3:B64^k*(R.getD (o+k) 0+1)≤B64^k*B64:=Nat.mul_le_mul_left _ h2
  rw[Nat.mul_add,Nat.mul_one]at h3
  omega
def takeI (R R' vs:List Nat) (o q j cb b:Nat):Prop:=
 R'.length=R.length∧(∀ i,i < o∨o+j≤i→R'.getD i 0=R.getD i 0)∧win R' o j+q*ev B64 (vs.take j)=win R o j+B64^j*(cb+b)
theorem sub_fig {u l b:Nat} (hu:u < B64) (hl:l < B64) (hb:b≤1):∃ s d,s+l+b=u+B64*d∧s < B64∧d≤1:=by
 by_cases h:u < l+b
 ·exact⟨u+B64 - l - b,1,by omega,by omega,by omega⟩
 ·exact⟨u - l - b,0,by omega,by omega,by omega⟩
theorem take_end {R R' vs:List Nat} {o q cb b s b':Nat} (hI:takeI R R' vs o q vs.length cb b) (ho:o+vs.length < R.length) (hs:s+cb+b=lg R' (o+vs.length)+B64*b'):
  (R'.set (o+vs.length) s).length=R.length∧(∀ i,i < o∨o+vs.length+1≤i→(R'.set (o+vs.length) s).getD i 0=R.getD i 0) ∧
  win (R'.set (o+vs.length) s) o (vs.length+1)+q*ev B64 vs=win R o (vs.length+1)+B64^(vs.length+1)*b':=by
 obtain⟨h1,h2,h3⟩:=hI
 rw[List.take_length]at h3
 refine⟨by rw[List.length_set];exact h1,fun i hi=>?_,?_⟩
 ·rw[getD_set_ne (by omega),h2 i (by omega)]
 ·rw[win_succ,win_set (Nat.le_refl _),getD_set_eq (by omega),win_succ,← h2 (o+vs.length) (by omega),Nat.pow_succ]
  unfold lg at hs
  have e2:B64^vs.length*(s+cb+b)=B64^vs.length*(R'.getD (o+vs.length) 0+B64*b'):=by rw[hs]
  rw[Nat.mul_assoc]
  simp only[Nat.mul_add]at *
  omega
theorem takeI_next {R R' vs:List Nat} {o q j cb b h l l' c c' s b':Nat} (hI:takeI R R' vs o q j cb b) (hj:j < vs.length) (ho:o+j < R.length) (hhl:q*lg vs j=h*B64+l) (hc:l'+B64*c=l+cb) (hc':c'=h+c) (hs:s+l'+b=lg R' (o+j)+B64*b'):
  takeI R (R'.set (o+j) s) vs o q (j+1) c' b':=by
 obtain⟨h1,h2,h3⟩:=hI
 refine⟨by rw[List.length_set];exact h1,fun i hi=>?_,?_⟩
 ·rw[getD_set_ne (by omega),h2 i (by omega)]
 ·rw[win_succ,win_set (Nat.le_refl j),getD_set_eq (by omega),ev_take_succ hj,win_succ,← h2 (o+j) (by omega),Nat.pow_succ]
  exact take_step h3 hhl hc hc' hs
def giveI (R1 R2 vs:List Nat) (o j c:Nat):Prop:=
 R2.length=R1.length∧(∀ i,i < o∨o+j≤i→R2.getD i 0=R1.getD i 0)∧win R2 o j+B64^j*c=win R1 o j+ev B64 (vs.take j)
theorem giveI_next {R1 R2 vs:List Nat} {o j c s c':Nat} (hI:giveI R1 R2 vs o j c) (hj:j < vs.length) (ho:o+j < R1.length) (hs:s+B64*c'=lg R2 (o+j)+lg vs j+c):
  giveI R1 (R2.set (o+j) s) vs o (j+1) c':=by
 obtain⟨h1,h2,h3⟩:=hI
 refine⟨by rw[List.length_set];exact h1,fun i hi=>?_,?_⟩
 ·rw[getD_set_ne (by omega),h2 i (by omega)]
 ·rw[win_succ,win_set (Nat.le_refl j),getD_set_eq (by omega),ev_take_succ hj,win_succ,← h2 (o+j) (by omega),Nat.pow_succ]
  exact give_step h3 hs
theorem give_end {R R1 R2 vs:List Nat} {o q c s:Nat} (hI:giveI R1 R2 vs o vs.length c) (ho:o+vs.length < R1.length) (hlim:Lim B64 R1) (hv:Lim B64 vs) (hR2:Lim B64 R2)
  (hs:s=(lg R2 (o+vs.length)+c) % B64) (ht:win R1 o (vs.length+1)+q*ev B64 vs=win R o (vs.length+1)+B64^(vs.length+1)*1) (hfit:q*ev B64 vs≤win R o (vs.length+1)+ev B64 vs):
  (R2.set (o+vs.length) s).length=R1.length∧(∀ i,i < o∨o+vs.length+1≤i→(R2.set (o+vs.length) s).getD i 0=R1.getD i 0) ∧
  win (R2.set (o+vs.length) s) o (vs.length+1)+(q - 1)*ev B64 vs=win R o (vs.length+1)∧1≤q∧win R o (vs.length+1) < q*ev B64 vs:=by
 obtain⟨h1,h2,h3⟩:=hI
 rw[List.take_length]at h3
 have hd:=Nat.mod_add_div (lg R2 (o+vs.length)+c) B64
 rw[← hs]at hd
 obtain⟨d,hdd⟩:∃ d,d=(lg R2 (o+vs.length)+c) / B64:=⟨_,rfl⟩
 rw[← hdd]at hd
 have hW:Lim B64 (R2.set (o+vs.length) s):=hR2.set (by rw[hs];exact Nat.mod_lt _ B64_pos) _
 have hlt:=win_lt hW o (vs.length+1)
 have hlt1:=win_lt hlim o (vs.length+1)
 have hV:=ev_lt hv
 have e1:win (R2.set (o+vs.length) s) o (vs.length+1)+B64^(vs.length+1)*d=win R1 o (vs.length+1)+ev B64 vs:=by
  rw[win_succ,win_set (Nat.le_refl _),getD_set_eq (by omega),win_succ,← h2 (o+vs.length) (by omega),Nat.pow_succ]
  unfold lg at hd
  have e2:B64^vs.length*(s+B64*d)=B64^vs.length*(R2.getD (o+vs.length) 0+c):=by rw[hd]
  rw[Nat.mul_assoc]
  simp only[Nat.mul_add]at *
  omega
 have hP:B64^vs.length≤B64^(vs.length+1):=Nat.pow_le_pow_right B64_pos (by omega)
 have hd1:d=1:=by
  rcases Nat.lt_or_ge d 1 with h | h
  ·obtain rfl:d=0:=by omega
   omega
  ·rcases Nat.lt_or_ge d 2 with h' | h'
   ·omega
   ·have:=Nat.mul_le_mul_left (B64^(vs.length+1)) h'
    omega
 subst hd1
 have hq1:1≤q:=by
  rcases Nat.eq_zero_or_pos q with h | h
  ·subst h;omega
  ·exact h
 refine⟨by rw[List.length_set];exact h1,fun i hi=>?_,?_,hq1,by omega⟩
 ·rw[getD_set_ne (by omega),h2 i (by omega)]
 ·obtain⟨m,rfl⟩:∃ m,q=m+1:=⟨q - 1,by omega⟩
  rw[Nat.add_mul,Nat.one_mul]at ht
  rw[Nat.add_sub_cancel]
  omega
set_option maxRecDepth 100000 in
set_option maxHeartbeats 2000000 in
theorem Tryz.taken {w:World} {base g m cap o n cw:Nat} {R vs:List Nat} {vv:Value} {q:Nat} (hown:Own w base 61 (.slice (some ⟨g,0,none⟩) m cap) R) (hR:Lim B64 R) (hv:Nt w vv vs) (hvg:vv.ownBlock≠some g)
  (hn:vs.length=n) (ho:o+n+1≤R.length) (hq:q < B64) (hcw:n+1≤cw) (hcw2:cw≤9223372036854775807) (hfit:q*ev B64 vs≤win R o (n+1)+ev B64 vs):
  Calls Tryz.prog 76 #[.slice (some ⟨g,o,none⟩) (n+1) cw,vv,.int .u64 (q:Int)] w fun e w'=>∃ (R':List Nat) (q':Nat),e=.returned (.int .u64 (q':Int))∧Own w' base 61 (.slice (some ⟨g,0,none⟩) m cap) R' ∧
   w.grownBy w' (some g)∧R'.length=R.length∧Lim B64 R'∧(∀ i,i < o∨o+n+1≤i→R'.getD i 0=R.getD i 0)∧win R' o (n+1)+q'*ev B64 vs=win R o (n+1)∧q' < B64∧(q'=q∨(q'+1=q∧win R o (n+1) < q*ev B64 vs)):=by
 obtain⟨a,b,ov,capv,rfl,hsv,hlv⟩:=hv
 subst hn
 have hmxv:=hsv.max
 have hlev:=hsv.le
 have hVS:=hown.head
 go_enter Tryz.func76,Tryz.ntmps76
 go_wp2
 go_loopw [7,8,9,10,11,12,13,20] (fun cv bv _ _ _ _ _ iv wr=>∃ (j cb bo:Nat) (R':List Nat),iv=.int .i64 (j:Int)∧cv=.int .u64 (cb:Int)∧bv=.int .u64 (bo:Int)∧j≤vs.length∧cb < B64∧bo≤1∧Own wr base 61 (.slice (some ⟨g,0,none⟩) m cap) R'∧Lim B64 R'∧Hid (takeI R R' vs o q j cb bo)∧w.grownBy wr (some g)) (fun _ _ _ _ _ _ _ i _=>vs.length - (intOf i).toNat)
 case atStart=>exact⟨0,0,0,R,rfl,rfl,rfl,by omega,B64_pos,by omega,hown,hR,Lib.hid ⟨rfl,fun _ _=>rfl,by simp[win_zero]⟩,grown_refl _ _⟩
 case round=>
  obtain⟨j,cb,bo,R',rfl,rfl,rfl,hj,hcb,hbo,hown',hR',hI,hgr⟩:=hrel
  by_cases hlt:j < vs.length
  ·obtain rfl:a=some ⟨b,ov,none⟩:=hsv.addr (by omega)
   have hx64:=lg_lt hlv j
   have hc:=hsv.cell hlt
   have hcx:wr.cell? ⟨b,ov+j,none⟩=some (.int .u64 ((lg vs j:Nat):Int)):=hgr.cell hc (fun e=>hvg (by simpa [Value.ownBlock] using e))
   have hlen:=hI.out.1
   have hcu:=hown'.cellAt (i:=o+j) (by omega)
   have hfu:=hown'.frozenAt (o+j)
   have hu64:=lg_lt hR' (o+j)
   obtain⟨x,hx⟩:∃ x,x=lg vs j:=⟨_,rfl⟩
   obtain⟨u,hu⟩:∃ u,u=lg R' (o+j):=⟨_,rfl⟩
   rw[← hx]at hcx hx64
   rw[← hu]at hcu hu64
   obtain⟨h,hh⟩:∃ h,h=q*x / B64:=⟨_,rfl⟩
   obtain⟨l,hl⟩:∃ l,l=q*x % B64:=⟨_,rfl⟩
   have hmul:∀ W,Calls Tryz.prog 104 #[.int .u64 (q:Int),.int .u64 (x:Int)] W fun e w'=>W=w'∧e=.returned (.tuple #[.int .u64 (h:Int),.int .u64 (l:Int)]):=fun W=>Tryz.mul64 hq hx64 hh hl W
   have hhl:q*x=h*B64+l:=by rw[hh,hl];exact(Nat.div_add_mod' _ _).symm
   have hlb:l < B64:=by rw[hl];exact Nat.mod_lt _ B64_pos
   obtain⟨l',hl'⟩:∃ s,s=(l+cb+0) % B64:=⟨_,rfl⟩
   obtain⟨c,hc1⟩:∃ d,d=(l+cb+0) / B64:=⟨_,rfl⟩
   have hadd:∀ W,(callFunc 105 #[.int .u64 (l:Int),.int .u64 (cb:Int),.int .u64 0]).run Tryz.prog W=.ok (.value (.tuple #[.int .u64 (l':Int),.int .u64 (c:Int)])) W:=fun W=>Tryz.add64 (c:=0) (by omega) hl' hc1 W
   have hlc:l'+B64*c=l+cb:=by rw[hl',hc1,Nat.add_zero,Nat.add_comm];exact Nat.div_add_mod _ _
   have hl'b:l' < B64:=by rw[hl'];exact Nat.mod_lt _ B64_pos
   have hfitc:=carry_fit hq hx64 hcb hhl hlc
   obtain⟨c',hc'⟩:∃ c',c'=h+c:=⟨_,rfl⟩
   rw[← hc']at hfitc
   have hwc:IntKind.u64.wrap ((h:Int)+(c:Int))=(c':Int):=by rw[IntKind.wrap_u64];rw[B64_eq]at hfitc;omega
   obtain⟨s,b',hsb,hs64,hb'⟩:=sub_fig (u:=u) (l:=l') (b:=bo) hu64 hl'b hbo
   have hsub:∀ W,(callFunc 106 #[.int .u64 (u:Int),.int .u64 (l':Int),.int .u64 (bo:Int)]).run Tryz.prog W=.ok (.value (.tuple #[.int .u64 (s:Int),.int .u64 (b':Int)])) W:=fun W=>Tryz.sub64 hu64 hl'b hbo hsb hs64 hb' W
   have HI:Hid (takeI R (R'.set (o+j) s) vs o q (j+1) c' b'):=Lib.hid (takeI_next hI.out (by omega) (by omega) (by rw[← hx];exact hhl) hlc hc' (by rw[← hu];exact hsb))
   have hjI:(j:Int) < (vs.length:Int):=by omega
   have hj0:(0:Int)≤(j:Int):=by omega
   have hjn:(j:Int) < ((vs.length+1:Nat):Int):=by omega
   clear hh hl hhl hlb hl' hc1 hlc hl'b hc' hsb hI hx hu hc
   go_wp2_with (first | (go_at_call 104;refine(hmul _).mono ?_;rintro e w' ⟨rfl,rfl⟩))
   go_roundw
   case rel=>exact⟨j+1,c',b',R'.set (o+j) s,by go_num,rfl,rfl,by omega,hfitc,hb',hown'.stored (o+j) s rfl,hR'.set hs64 _,HI,grown_trans hgr (grown_set _ _ _ _)⟩
   case measure=>simp[intOf];omega
  ·obtain rfl:j=vs.length:=by omega
   have hjI:¬ ((vs.length:Int) < (vs.length:Int)):=by omega
   have hlen:=hI.out.1
   have hcu:=hown'.cellAt (i:=o+vs.length) (by omega)
   have hfu:=hown'.frozenAt (o+vs.length)
   have hu64:=lg_lt hR' (o+vs.length)
   obtain⟨u,hu⟩:∃ u,u=lg R' (o+vs.length):=⟨_,rfl⟩
   rw[← hu]at hcu hu64
   obtain⟨s,b',hsb,hs64,hb'⟩:=sub_fig (u:=u) (l:=cb) (b:=bo) hu64 hcb hbo
   have hsub:∀ W,(callFunc 106 #[.int .u64 (u:Int),.int .u64 (cb:Int),.int .u64 (bo:Int)]).run Tryz.prog W=.ok (.value (.tuple #[.int .u64 (s:Int),.int .u64 (b':Int)])) W:=fun W=>Tryz.sub64 hu64 hcb hbo hsb hs64 hb' W
   have hT:=take_end hI.out (by omega) (by rw[← hu];exact hsb)
   have hHT:=Lib.hid hT
   have hown1:=hown'.stored (o+vs.length) s rfl
   have hR1:=hR'.set hs64 (o+vs.length)
   have hg1:=grown_trans hgr (grown_set wr g (o+vs.length) (.int .u64 (s:Int)))
   have hn0:(0:Int)≤(vs.length:Int):=by omega
   have hn1:(vs.length:Int) < ((vs.length+1:Nat):Int):=by omega
   by_cases hb0:b'=0
   ·subst hb0
    clear hI hsb hT hu
    go_wp2
    go_ret
    exact⟨_,q,rfl,hown1,hg1,hHT.out.1,hR1,hHT.out.2.1,by have h:=hHT.out.2.2;rw[Nat.mul_zero,Nat.add_zero]at h;exact h,hq,.inl rfl⟩
   ·obtain rfl:b'=1:=by omega
    clear hI hsb hT hu
    go_wp2
    obtain⟨R1,hR1e⟩:∃ R1,R1=R'.set (o+vs.length) s:=⟨_,rfl⟩
    obtain⟨W1,hW1e⟩:∃ W1,W1=wr.setCell ⟨g,o+vs.length,none⟩ (.int .u64 (s:Int)):=⟨_,rfl⟩
    rw[← hR1e,← hW1e]at hown1
    rw[← hR1e]at hR1 hHT
    rw[← hW1e]at hg1
    rw[← hW1e]
    clear hW1e hR1e hown' hR' hcu hfu hgr
    go_loopw [15,16,17,74] (fun cv _ _ iv wr=>∃ (j c:Nat) (R2:List Nat),iv=.int .i64 (j:Int)∧cv=.int .u64 (c:Int)∧j≤vs.length∧c≤1∧Own wr base 61 (.slice (some ⟨g,0,none⟩) m cap) R2∧Lim B64 R2∧Hid (giveI R1 R2 vs o j c)∧w.grownBy wr (some g)) (fun _ _ _ i _=>vs.length - (intOf i).toNat)
    case atStart=>exact⟨0,0,R1,rfl,rfl,by omega,by omega,hown1,hR1,Lib.hid ⟨rfl,fun _ _=>rfl,by simp[win_zero]⟩,hg1⟩
    case round=>
     obtain⟨j,c,R2,rfl,rfl,hj2,hc2,hown2,hR2,hI2,hgr2⟩:=hrel
     have hlenT:=hHT.out.1
     have hlen2:=hI2.out.1
     by_cases hlt2:j < vs.length
     ·obtain rfl:a=some ⟨b,ov,none⟩:=hsv.addr (by omega)
      have hx64:=lg_lt hlv j
      have hc:=hsv.cell hlt2
      have hcx:wr.cell? ⟨b,ov+j,none⟩=some (.int .u64 ((lg vs j:Nat):Int)):=hgr2.cell hc (fun e=>hvg (by simpa [Value.ownBlock] using e))
      have hcu:=hown2.cellAt (i:=o+j) (by omega)
      have hfu:=hown2.frozenAt (o+j)
      have hu64':=lg_lt hR2 (o+j)
      obtain⟨x,hx⟩:∃ x,x=lg vs j:=⟨_,rfl⟩
      obtain⟨y,hy⟩:∃ y,y=lg R2 (o+j):=⟨_,rfl⟩
      rw[← hx]at hcx hx64
      rw[← hy]at hcu hu64'
      obtain⟨s2,hs2⟩:∃ s2,s2=(y+x+c) % B64:=⟨_,rfl⟩
      obtain⟨c',hc'⟩:∃ d,d=(y+x+c) / B64:=⟨_,rfl⟩
      have hadd:∀ W,(callFunc 105 #[.int .u64 (y:Int),.int .u64 (x:Int),.int .u64 (c:Int)]).run Tryz.prog W=.ok (.value (.tuple #[.int .u64 (s2:Int),.int .u64 (c':Int)])) W:=fun W=>Tryz.add64 (by omega) hs2 hc' W
      have hsc:s2+B64*c'=y+x+c:=by rw[hs2,hc',Nat.add_comm];exact Nat.div_add_mod _ _
      have hs2b:s2 < B64:=by rw[hs2];exact Nat.mod_lt _ B64_pos
      have hc'1:c'≤1:=by rw[B64_eq]at *;omega
      have HI:Hid (giveI R1 (R2.set (o+j) s2) vs o (j+1) c'):=Lib.hid (giveI_next hI2.out hlt2 (by omega) (by rw[← hy,← hx];exact hsc))
      have hjI:(j:Int) < (vs.length:Int):=by omega
      have hj0:(0:Int)≤(j:Int):=by omega
      have hjn:(j:Int) < ((vs.length+1:Nat):Int):=by omega
      have hown3:=hown2.stored (o+j) s2 rfl
      have hgr3:=grown_trans hgr2 (grown_set wr g (o+j) (.int .u64 (s2:Int)))
      clear hs2 hc' hsc hI2 hx hy hc hlenT hlen2
      go_wp2
      go_roundw
      case rel=>exact⟨j+1,c',R2.set (o+j) s2,by go_num,rfl,by omega,hc'1,hown3,hR2.set hs2b _,HI,hgr3⟩
      case measure=>simp[intOf];omega
     ·obtain rfl:j=vs.length:=by omega
      have hjI:¬ ((vs.length:Int) < (vs.length:Int)):=by omega
      have hcu:=hown2.cellAt (i:=o+vs.length) (by omega)
      have hfu:=hown2.frozenAt (o+vs.length)
      have hu64':=lg_lt hR2 (o+vs.length)
      obtain⟨s2,hs2⟩:∃ s2,s2=(lg R2 (o+vs.length)+c) % B64:=⟨_,rfl⟩
      have hE:=give_end (R:=R) hI2.out (by omega) hR1 hlv hR2 hs2 hHT.out.2.2 hfit
      obtain⟨y,hy⟩:∃ y,y=lg R2 (o+vs.length):=⟨_,rfl⟩
      rw[← hy]at hcu hu64' hs2
      have hq1:=hE.2.2.2.1
      have hwa:IntKind.u64.wrap ((y:Int)+(c:Int))=(s2:Int):=by rw[IntKind.wrap_u64,hs2];rfl
      have hs2b:s2 < B64:=by rw[hs2];exact Nat.mod_lt _ B64_pos
      have hwq:IntKind.u64.wrap ((q:Int) - 1)=((q - 1:Nat):Int):=by rw[IntKind.wrap_u64];rw[B64_eq]at hq;omega
      have HE:=Lib.hid hE
      have hown3:=hown2.stored (o+vs.length) s2 rfl
      have hgr3:=grown_trans hgr2 (grown_set wr g (o+vs.length) (.int .u64 (s2:Int)))
      have hR3:=hR2.set hs2b (o+vs.length)
      have hq2:(1:Int)≤(q:Int):=by omega
      have hnn0:(0:Int)≤(vs.length:Int):=by omega
      have hnn1:(vs.length:Int) < ((vs.length+1:Nat):Int):=by omega
      clear hs2 hI2 hE hy hlenT hlen2
      go_wp2
      go_ret
      exact⟨_,q - 1,rfl,hown3,hgr3,HE.out.1.trans hHT.out.1,hR3,fun i hi=>(HE.out.2.1 i hi).trans (hHT.out.2.1 i hi),HE.out.2.2.1,by omega,.inr ⟨by omega,HE.out.2.2.2.2⟩⟩
end Go.Rt
namespace Go.Rt
theorem guess_fit {a b c t n0 g V W vl wl P:Nat} (hG:guessR a b c t n0 g) (hV:V=(t*B64+n0)*P+vl) (hW:W=((a*B64+b)*B64+c)*P+wl) (hvl:vl < P) (ht:0 < t) (hwl:wl < P) (hVB:W < V*B64):
  g*V≤W+V∧W < (g+1)*V:=by
 obtain⟨h1,h2,h3⟩:=hG
 constructor
 ·have e1:g*V=g*(t*B64+n0)*P+g*vl:=by rw[hV,Nat.mul_add,Nat.mul_assoc]
  have e2:g*(t*B64+n0)*P≤((a*B64+b)*B64+c)*P:=Nat.mul_le_mul_right _ h2
  have e3:g*vl≤B64*P:=Nat.mul_le_mul (Nat.le_of_lt h1) (Nat.le_of_lt hvl)
  have e4:B64*P≤(t*B64+n0)*P:=Nat.mul_le_mul_right _ (by have:=Nat.mul_le_mul_right B64 ht;omega)
  omega
 ·rcases h3 with h3 | h3
  ·rw[h3,Nat.mul_comm];exact hVB
  ·have e2:((a*B64+b)*B64+c+1)*P≤(g+1)*(t*B64+n0)*P:=Nat.mul_le_mul_right _ h3
   rw[Nat.add_mul _ 1,Nat.one_mul]at e2
   have e1:(g+1)*V=(g+1)*(t*B64+n0)*P+(g+1)*vl:=by rw[hV,Nat.mul_add,Nat.mul_assoc]
   omega
theorem digit_is {g q V W W':Nat} (hV:0 < V) (h:W'+q*V=W) (hq:q=g∨(q+1=g∧W < g*V)) (hlt:W < (g+1)*V):q=W / V∧W'=W % V:=by
 have hW':W' < V:=by
  rcases hq with rfl | ⟨h1,h2⟩
  ·rw[Nat.add_mul,Nat.one_mul]at hlt;omega
  ·rw[← h1,Nat.add_mul,Nat.one_mul]at h2;omega
 have e:W=W'+V*q:=by rw[← h,Nat.mul_comm]
 constructor
 ·rw[e,Nat.add_mul_div_left _ _ hV,Nat.div_eq_of_lt hW',Nat.zero_add]
 ·rw[e,Nat.add_mul_mod_self_left,Nat.mod_eq_of_lt hW']
theorem ev_win {R:List Nat} {k m:Nat} (h:∀ i,k+m≤i→R.getD i 0=0) (hk:k≤R.length):ev B64 R=ev B64 (R.take k)+B64^k*win R k m:=by
 rw[ev_split R k hk]
 congr 2
 unfold win
 rcases Nat.le_total (R.drop k).length m with h1 | h1
 ·rw[List.take_of_length_le h1]
 ·rw[bare_take h1 fun i h2 h3=>by rw[List.getD_eq_getElem?_getD,List.getElem?_drop,← List.getD_eq_getElem?_getD];exact h _ (by omega)]
theorem high_zero {R:List Nat} {m:Nat} (hR:Lim B64 R) (h:ev B64 R < B64^m) (i:Nat) (hi:m≤i):R.getD i 0=0:=by
 rw[limb_div hR i,Nat.div_eq_of_lt (Nat.lt_of_lt_of_le h (Nat.pow_le_pow_right B64_pos hi)),Nat.zero_mod]
theorem win_top {R:List Nat} {o m:Nat} (hR:Lim B64 R):win R o (m+3)=((R.getD (o+(m+2)) 0*B64+R.getD (o+(m+1)) 0)*B64+R.getD (o+m) 0)*B64^m+win R o m∧win R o m < B64^m:=by
 refine⟨?_,win_lt hR o m⟩
 rw[win_succ,win_succ,win_succ,Nat.pow_succ,Nat.pow_succ,Nat.pow_succ]
 generalize B64^m=P
 generalize R.getD (o+(m+2)) 0=x
 generalize R.getD (o+(m+1)) 0=y
 generalize R.getD (o+m) 0=z
 rw[Nat.add_mul _ z,Nat.add_mul (x*B64) y,Nat.add_mul _ _ P]
 simp only[Nat.mul_comm,Nat.mul_left_comm]
 omega
theorem ev_top {vs:List Nat} {m:Nat} (hv:Lim B64 vs) (hl:vs.length=m+2):ev B64 vs=(vs.getD (m+1) 0*B64+vs.getD m 0)*B64^m+ev B64 (vs.take m)∧ev B64 (vs.take m) < B64^m:=by
 constructor
 ·have h1:=ev_take_succ (b:=B64) (xs:=vs) (k:=m+1) (by omega)
  rw[show m+1+1=vs.length from by omega,List.take_length,ev_take_succ (by omega)]at h1
  rw[h1,Nat.pow_succ,Nat.add_mul]
  simp only[Nat.mul_assoc,Nat.mul_comm,Nat.mul_left_comm]
  omega
 ·have:=ev_lt (hv.take m)
  rwa [List.length_take,Nat.min_eq_left (by omega)]at this
def dmR (X V i:Nat) (R:List Nat):Prop:=ev B64 R=X % (V*B64^i)
theorem dm_need {X V k m:Nat} {R vs:List Nat} (hI:dmR X V (k+1) R) (hR:Lim B64 R) (hv:Lim B64 vs) (hl:vs.length=m+2) (hV:ev B64 vs=V) (hVp:0 < V) (hk:k≤R.length):
  ev B64 R=ev B64 (R.take k)+B64^k*win R k (m+3)∧ev B64 (R.take k) < B64^k∧win R k (m+3) < V*B64∧lg R (k+(m+2))≤lg vs (m+1):=by
 have hlt:ev B64 R < V*B64^(k+1):=by rw[hI];exact Nat.mod_lt _ (Nat.mul_pos hVp (Nat.pow_pos B64_pos))
 have hVlt:=ev_lt hv
 rw[hV,hl]at hVlt
 have hz:∀ i,k+(m+3)≤i→R.getD i 0=0:=fun i hi=>by
  refine high_zero hR (m:=k+(m+3)) (Nat.lt_of_lt_of_le hlt ?_) i hi
  have:V*B64^(k+1)≤B64^(m+2)*B64^(k+1):=Nat.mul_le_mul_right _ (Nat.le_of_lt hVlt)
  rw[← Nat.pow_add]at this
  rwa [show k+(m+3)=m+2+(k+1) from by omega]
 have he:=ev_win hz hk
 have hlow:ev B64 (R.take k) < B64^k:=by
  have:=ev_lt (hR.take k)
  rwa [List.length_take,Nat.min_eq_left hk]at this
 have hW:win R k (m+3) < V*B64:=by
  rw[he,Nat.pow_succ]at hlt
  have h3:B64^k*win R k (m+3) < B64^k*(V*B64):=by
   have e:B64^k*(V*B64)=V*(B64^k*B64):=Nat.mul_left_comm _ _ _
   omega
  exact Nat.lt_of_mul_lt_mul_left h3
 refine⟨he,hlow,hW,?_⟩
 obtain⟨t1,t2⟩:=win_top (o:=k) (m:=m) hR
 obtain⟨u1,u2⟩:=ev_top hv hl
 unfold lg
 rcases Nat.lt_or_ge (vs.getD (m+1) 0) (R.getD (k+(m+2)) 0)with h | h
 ·exfalso
  have hb:=hv.getD B64_pos m
  rw[hV]at u1
  have e1:V < (vs.getD (m+1) 0+1)*B64*B64^m:=by
   have:(vs.getD (m+1) 0*B64+vs.getD m 0+1)*B64^m≤(vs.getD (m+1) 0+1)*B64*B64^m:=Nat.mul_le_mul_right _ (by rw[Nat.add_mul _ 1];omega)
   rw[Nat.add_mul _ 1,Nat.one_mul]at this
   omega
  have e2:(vs.getD (m+1) 0+1)*B64*B64*B64^m≤win R k (m+3):=by
   have h2:(vs.getD (m+1) 0+1)*B64*B64≤R.getD (k+(m+2)) 0*B64*B64:=Nat.mul_le_mul_right _ (Nat.mul_le_mul_right _ h)
   have h3:(R.getD (k+(m+2)) 0*B64)*B64≤(R.getD (k+(m+2)) 0*B64+R.getD (k+(m+1)) 0)*B64:=Nat.mul_le_mul_right _ (by omega)
   have h4:(vs.getD (m+1) 0+1)*B64*B64*B64^m≤((R.getD (k+(m+2)) 0*B64+R.getD (k+(m+1)) 0)*B64+R.getD (k+m) 0)*B64^m:=Nat.mul_le_mul_right _ (by omega)
   omega
  have e3:V*B64 < (vs.getD (m+1) 0+1)*B64*B64^m*B64:=Nat.mul_lt_mul_of_pos_right e1 B64_pos
  rw[Nat.mul_right_comm _ (B64^m) B64]at e3
  omega
 ·exact h
theorem dm_step {X V k m q:Nat} {R R':List Nat} (hI:dmR X V (k+1) R)
  (he:ev B64 R=ev B64 (R.take k)+B64^k*win R k (m+3)) (hlow:ev B64 (R.take k) < B64^k)
  (hlen:R'.length=R.length) (hout:∀ i,i < k∨k+(m+2)+1≤i→R'.getD i 0=R.getD i 0) (hz:∀ i,k+(m+3)≤i→R.getD i 0=0) (hk:k≤R.length)
  (hq:q=win R k (m+3) / V) (hw:win R' k (m+3)=win R k (m+3) % V):
  dmR X V k R'∧q=X / V / B64^k % B64:=by
 have he':=ev_win (k:=k) (m:=m+3) (fun i hi=>by rw[hout i (by omega)];exact hz i hi) (by omega)
 have htk:R'.take k=R.take k:=by
  refine List.ext_getElem (by simp[hlen]) fun i h1 h2=>?_
  rw[List.length_take]at h1 h2
  rw[List.getElem_take,List.getElem_take]
  have:=hout i (by omega)
  rw[List.getD_eq_getElem?_getD,List.getD_eq_getElem?_getD,List.getElem?_eq_getElem (by omega),List.getElem?_eq_getElem (by omega)]at this
  exact this
 unfold dmR at *
 have hP:0 < B64^k:=Nat.pow_pos B64_pos
 have hdiv:ev B64 R / B64^k=win R k (m+3):=by
  rw[he,Nat.add_mul_div_left _ _ hP,Nat.div_eq_of_lt hlow,Nat.zero_add]
 constructor
 ·rw[he',htk,hw]
  have h1:X % (V*B64^k)=ev B64 R % (V*B64^k):=by
   rw[hI,Nat.pow_succ,← Nat.mul_assoc,Nat.mod_mul_right_mod]
  rw[h1,Nat.mul_comm V,Nat.mod_mul,hdiv]
  have h2:ev B64 R % B64^k=ev B64 (R.take k):=by
   rw[he,Nat.add_mul_mod_self_left,Nat.mod_eq_of_lt hlow]
  rw[h2]
 ·rw[hq,← hdiv,hI,Nat.div_div_eq_div_mul,Nat.div_div_eq_div_mul,Nat.pow_succ,← Nat.mul_assoc,Nat.mul_comm (B64^k) V,Nat.mod_mul_right_div_self]
end Go.Rt
namespace Go.Rt
open Go.RowKit Go.Shelf Go.Proofs
def DM (w:World) (N M:Nat) (e:Ending) (w':World):Prop:=
  ∃ vq vr,e=.returned (.tuple #[vq,vr,.int .i64 (dvE M)])∧Nw w' vq (N / M)∧Nw w' vr (dvR N M)∧Ext w w'∧Fr w vq∧Fr w vr
set_option maxHeartbeats 1000000 in
theorem Tryz.divDivMod0 {v1 v2:Value} {N:Nat} {w:World} (h2:Nw w v2 0):Calls Tryz.prog 37 #[v1,v2] w (DM w N 0):=by
  obtain⟨a,n,cap,rfl,hn0,-⟩:=h2.len
  obtain rfl:n=0:=hn0.2 rfl
  have HE:Hid (dvE 0=4):=Lib.hid rfl
  have HQ:Hid (N / 0=0):=Lib.hid (Nat.div_zero _)
  have HR:Hid (dvR N 0=0):=Lib.hid (if_pos rfl)
  clear h2 hn0
  go_enter Tryz.func37,Tryz.ntmps37
  go_wp2
  go_ret3
  exact⟨_,_,by rw[HE.out];rfl,by rw[HQ.out];exact Nw.nil _,by rw[HR.out];exact Nw.nil _,Ext.alloc1 _ _,Fr.nil _,Fr.nil _⟩
set_option maxHeartbeats 1000000 in
theorem Tryz.divDivModL {v1 v2:Value} {N M L:Nat} {w:World} (h1:Nw w v1 N) (h2:Nw w v2 M) (s1:Sm L N) (hL:L≤1000000) (hlt:N < M):Calls Tryz.prog 37 #[v1,v2] w (DM w N M):=by
  have h2':=h2
  obtain⟨a,n,cap,rfl,hn0,-⟩:=h2.len
  obtain⟨xs,hx,hxn,hxe,hxl⟩:=h1.lens s1
  have hn1:1≤n:=by
    rcases Nat.eq_zero_or_pos n with h | h
    · have:=hn0.1 h;omega
    · exact h
  have hnb:((n:Int)==0)=false:=beq_eq_false_iff_ne.2 (by omega)
  have HE:Hid (dvE M=0):=Lib.hid (dvE_pos (by omega))
  have HQ:Hid (N / M=0):=Lib.hid (Nat.div_eq_of_lt hlt)
  have HR:Hid (dvR N M=ev B64 xs):=Lib.hid (by rw[dvR_pos (by omega),Nat.mod_eq_of_lt hlt,hxe])
  have HC:Hid (cmpI N M = -1):=Lib.hid (cmpI_nat_lt hlt)
  have HX:=Lib.hid hxe
  have HN:=Lib.hid hxn
  clear h2 hn0 hxe hlt hxn
  go_enter Tryz.func37,Tryz.ntmps37
  go_wp2_with fail
  refine(Tryz.natCmp (h1.ext (Ext.alloc1 _ _)) (h2'.ext (Ext.alloc1 _ _))).mono ?_
  rintro e w1 ⟨rfl,hE1⟩
  rw[HC.out]
  have hE2:=(Ext.alloc1 w _).trans hE1
  go_wp2_with fail
  refine(Tryz.clone (hx.ext hE2) (by omega)).mono ?_
  rintro e w2 ⟨v',rfl,hown,hE3⟩
  have hlim:=(hx.lim)
  have hnt:=hown.nt hlim
  have hfr:=hown.fr
  have HF:=Lib.hid (Fr.back hfr hE2)
  go_wp2
  go_ret3
  exact⟨_,_,by rw[HE.out];rfl,by rw[HQ.out];exact Nw.nil _,by rw[HR.out];exact⟨xs,hnt,HN.out,rfl⟩,hE2.trans hE3,Fr.nil _,HF.out⟩
set_option maxHeartbeats 1000000 in
theorem Tryz.divDivMod1 {v1 v2:Value} {N M L:Nat} {w:World} (h1:Nw w v1 N) (h2:Nw w v2 M) (s1:Sm L N) (hL:L≤1000000) (hle:M≤N) (hM:0 < M) (hM1:M < B64):Calls Tryz.prog 37 #[v1,v2] w (DM w N M):=by
  have h2':=h2
  obtain⟨ys,⟨a,b,o,cap,rfl,hs,hl⟩,hyn,hye,hyl⟩:=h2.lens (Sm.one hM1)
  have hy1:ys.length=1:=by
    rcases Nat.eq_zero_or_pos ys.length with h | h
    · have:=(hyn.zero_iff B64_pos).2 h;omega
    · omega
  have hc0:=hs.cell (i:=0) (by omega)
  obtain rfl:=hs.addr (by omega)
  have hlg:lg ys 0=M:=by
    match ys,hy1,hye with
    | [y],_,hye=>simpa [lg,ev_single] using hye
  rw[hlg,Nat.add_zero]at hc0
  rw[hy1]at h2'
  rw[hy1]
  have HE:Hid (dvE M=0):=Lib.hid (dvE_pos hM)
  have HR:Hid (dvR N M=N % M):=Lib.hid (dvR_pos hM)
  obtain⟨cc,hcc⟩:∃ c,c=cmpI N M:=⟨_,rfl⟩
  have hc2:¬ (cc < 0):=by
    rw[hcc]
    rcases Nat.lt_or_ge M N with h | h
    · rw[cmpI_nat_gt h];omega
    · rw[cmpI_nat_eq (by omega)];omega
  have HC:=Lib.hid hcc
  have hNM:N % M < B64:=Nat.lt_trans (Nat.mod_lt _ hM) hM1
  have hcap:=hs.le
  have hcap2:=hs.max
  rw[hy1]at hcap
  clear h2 hyn hye hyl hcc hs hy1 hlg hl
  have hcw:=(Ext.alloc1 w (.cells #[.int .i64 1] 3)).cell hc0
  go_enter Tryz.func37,Tryz.ntmps37
  go_wp2_with fail
  refine(Tryz.natCmp (h1.ext (Ext.alloc1 _ _)) (h2'.ext (Ext.alloc1 _ _))).mono ?_
  rintro e w1 ⟨rfl,hE1⟩
  rw[← HC.out]
  have hE2:=(Ext.alloc1 w _).trans hE1
  have hbox:=(box_ext hE1 (Boxed.new w 3 (.int .i64 1))).cell
  have hc1:=hE1.cell hcw
  go_wp2_with fail
  refine(Tryz.divShort (h1.ext hE2) s1 hL hM hM1).mono ?_
  rintro e w2 ⟨vq,rfl,hq,hE3,hfq⟩
  go_wp2_with fail
  refine(Tryz.natOf (N % M) _ hNM).mono ?_
  rintro e w3 ⟨vr,rfl,hr,hE4,hfr⟩
  have hE23:=hE2.trans hE3
  have hq4:=hq.ext hE4
  have f1:=Fr.back hfq hE2
  have f2:=Fr.back hfr hE23
  go_wp2
  go_ret3
  exact⟨_,_,by rw[HE.out];rfl,hq4,by rw[HR.out];exact hr,hE23.trans hE4,f1,f2⟩
end Go.Rt
namespace Go.Rt
open Go.RowKit Go.Shelf Go.Proofs
attribute [local go_sem] Oper.semAt_some
def boxLen (w:World) (b:Nat):Nat:=match w.cell? ⟨b,0,none⟩with | some (.slice _ n _)=>n | _=>0
theorem boxLen_eq {w:World} {b t:Nat} {a:Option Addr} {n c:Nat} (h:Boxed w b t (.slice a n c)):boxLen w b=n:=by unfold boxLen;rw[h.cell]
theorem shift_fit {ys:List Nat} {n:Nat} (hl:Lim B64 ys) (hn:Norm ys) (hlen:ys.length=n+1):
  64 - bl (ys.getD n 0) < 64∧ev B64 ys*2^(64 - bl (ys.getD n 0)) < B64^(n+1):=by
 have ht:ys.getD n 0≠0:=by
  rcases hn with h | h
  ·omega
  ·rwa [show ys.length - 1=n from by omega]at h
 have htl:=hl.getD B64_pos n
 obtain⟨b1,b2⟩:=bl_ge ht
 have b3:=bl_lt (ys.getD n 0)
 have b4:bl (ys.getD n 0)≤64:=(bl_le_iff _ _).2 (by rw[← B64_two];exact htl)
 refine⟨by omega,?_⟩
 have e1:=ev_take_succ (b:=B64) (xs:=ys) (k:=n) (by omega)
 rw[show n+1=ys.length from by omega,List.take_length]at e1
 have e2:=ev_lt (hl.take n)
 rw[List.length_take,Nat.min_eq_left (by omega)]at e2
 have e3:ev B64 ys < B64^n*(ys.getD n 0+1):=by rw[e1,Nat.mul_add,Nat.mul_one];omega
 have e4:(ys.getD n 0+1)*2^(64 - bl (ys.getD n 0))≤B64:=by
  have h1:(ys.getD n 0+1)*2^(64 - bl (ys.getD n 0))≤2^bl (ys.getD n 0)*2^(64 - bl (ys.getD n 0)):=Nat.mul_le_mul_right _ b3
  rw[← Nat.pow_add,show bl (ys.getD n 0)+(64 - bl (ys.getD n 0))=64 from by omega,← B64_two]at h1
  exact h1
 calc ev B64 ys*2^(64 - bl (ys.getD n 0)) < B64^n*(ys.getD n 0+1)*2^(64 - bl (ys.getD n 0)):=Nat.mul_lt_mul_of_pos_right e3 (Nat.two_pow_pos _)
  _=B64^n*((ys.getD n 0+1)*2^(64 - bl (ys.getD n 0))):=Nat.mul_assoc _ _ _
  _≤B64^n*B64:=Nat.mul_le_mul_left _ e4
  _=B64^(n+1):=(Nat.pow_succ ..).symm
def dmH (la mq X V k:Nat) (R Q:List Nat):Prop:=
 Lim B64 R∧R.length=la+1∧dmR X V (mq - k) R∧Q.length=mq∧(∀ j,mq - k≤j→j < mq→Q.getD j 0=X / V / B64^j % B64)∧∀ j,j < mq - k→Q.getD j 0=0
def dmB (w:World) (bv bu bq bx:Nat) (tN tI tU:TypeId) (gv cv gu cu gq la n mq:Nat) (vs:List Nat) (W:World):Prop:=
 Ext w W∧Boxed W w.heap.size tI (.int .i64 (n:Int))∧Boxed W bv tN (.slice (some ⟨gv,0,none⟩) n cv)∧Boxed W bu tN (.slice (some ⟨gu,0,none⟩) (la+1) cu) ∧
 Boxed W bq tN (.slice (some ⟨gq,0,none⟩) mq mq)∧Boxed W bx tN (.slice (some ⟨gq,0,none⟩) mq mq)∧Own W w.heap.size tU (.slice (some ⟨gv,0,none⟩) n cv) vs
def dmI (w:World) (bv bu bq bx:Nat) (tN tI tU:TypeId) (gv cv gu cu gq la n mq:Nat) (vs:List Nat) (X V:Nat) (k:Nat) (W:World):Prop:=
 dmB w bv bu bq bx tN tI tU gv cv gu cu gq la n mq vs W ∧
 ∃ R Q:List Nat,Own W w.heap.size tU (.slice (some ⟨gu,0,none⟩) (la+1) cu) R∧Own W w.heap.size tU (.slice (some ⟨gq,0,none⟩) mq mq) Q∧Hid (dmH la mq X V k R Q)
section
variable {w:World} {bv bu bq bx:Nat} {tN tI tU:TypeId} {gv cv gu cu gq la n mq:Nat} {vs:List Nat} {X V k:Nat} {W W':World}
theorem dmB.ext (h:dmB w bv bu bq bx tN tI tU gv cv gu cu gq la n mq vs W) (hx:Ext W W'):dmB w bv bu bq bx tN tI tU gv cv gu cu gq la n mq vs W':=
 ⟨h.1.trans hx,box_ext hx h.2.1,box_ext hx h.2.2.1,box_ext hx h.2.2.2.1,box_ext hx h.2.2.2.2.1,box_ext hx h.2.2.2.2.2.1,h.2.2.2.2.2.2.ext hx⟩
theorem dmB.kept (h:dmB w bv bu bq bx tN tI tU gv cv gu cu gq la n mq vs W) {g:Nat} (hg:W.grownBy W' (some g)) (hw:w.heap.size < g) (h1:bv≠g) (h2:bu≠g) (h3:bq≠g) (h4:bx≠g) (h5:gv≠g):
  dmB w bv bu bq bx tN tI tU gv cv gu cu gq la n mq vs W':=
 ⟨h.1.grown hg (fun k e=>by cases e;omega),h.2.1.kept hg (by simp;omega),h.2.2.1.kept hg (by simpa using h1),h.2.2.2.1.kept hg (by simpa using h2),h.2.2.2.2.1.kept hg (by simpa using h3),h.2.2.2.2.2.1.kept hg (by simpa using h4),h.2.2.2.2.2.2.kept hg (.inr (by simpa [Value.ownBlock] using h5))⟩
theorem dmI_turns (D:Nat) (hD:w.heap.size≤D) (k:Nat):Turns D (dmI w bv bu bq bx tN tI tU gv cv gu cu gq la n mq vs X V k):=
 ((Turns.ext hD).and ((Turns.box _ _ _ _).and ((Turns.box _ _ _ _).and ((Turns.box _ _ _ _).and ((Turns.box _ _ _ _).and ((Turns.box _ _ _ _).and Turns.own)))))).and (Turns.ex fun _=>Turns.ex fun _=>Turns.own.and (Turns.own.and (Turns.pure _ _)))
theorem dmI_alloc (h:dmI w bv bu bq bx tN tI tU gv cv gu cu gq la n mq vs X V k W) (o:Obj):dmI w bv bu bq bx tN tI tU gv cv gu cu gq la n mq vs X V k (W.alloc o):=
 ⟨h.1.ext (Ext.alloc1 _ _),let ⟨R,Q,p1,p2,p3⟩:=h.2;⟨R,Q,p1.alloc o,p2.alloc o,p3⟩⟩
end
set_option maxRecDepth 100000 in
set_option maxHeartbeats 4000000 in
theorem Tryz.divDivModN {v1 v2:Value} {N M L:Nat} {w:World} (h1:Nw w v1 N) (h2:Nw w v2 M) (s1:Sm L N) (hL:L≤300000) (hle:M≤N) (hM1:B64≤M):Calls Tryz.prog 37 #[v1,v2] w (DM w N M):=by
 have h1':=h1
 have h2':=h2
 have s2:Sm L M:=s1.le hle
 have hM:0 < M:=Nat.lt_of_lt_of_le B64_pos hM1
 obtain⟨xs,⟨a1,b1,o1,c1,rfl,hs1,hl1⟩,hxn,hxe,hxl⟩:=h1.lens s1
 obtain⟨ys,⟨a2,b2,o2,c2,rfl,hs2,hl2⟩,hyn,hye,hyl⟩:=h2.lens s2
 have hy2:2≤ys.length:=by
  rcases Nat.lt_or_ge ys.length 2 with h | h
  ·have h3:=(len_le_iff (by rw[B64_eq];omega) hl2 hyn 1).1 (by omega)
   rw[hye,Nat.pow_one]at h3;omega
  ·exact h
 have hlen:ys.length≤xs.length:=by
  refine(len_le_iff (by rw[B64_eq];omega) hl2 hyn _).2 ?_
  rw[hye]
  refine Nat.lt_of_le_of_lt hle ?_
  rw[← hxe];exact ev_lt hl1
 obtain⟨m,hm⟩:∃ m,m=ys.length - 2:=⟨_,rfl⟩
 have hfit:=shift_fit (n:=m+1) hl2 hyn (by omega)
 rw[hye]at hfit
 obtain⟨bt,hbt⟩:∃ bt,bt=64 - bl (ys.getD (m+1) 0):=⟨_,rfl⟩
 rw[← hbt]at hfit
 have hbt63:=hfit.1
 have hVlt:=hfit.2
 rw[show m+1=ys.length - 1 from by omega]at hbt
 have htop64:=lg_lt hl2 (ys.length - 1)
 obtain rfl:=hs2.addr (by omega)
 have hctop:=hs2.cell (i:=ys.length - 1) (by omega)
 have HBT:Hid (bt=64 - bl (lg ys (ys.length - 1))):=Lib.hid hbt
 have hlead:∀ W,Calls Tryz.prog 74 #[.int .u64 ((lg ys (ys.length - 1):Nat):Int)] W fun e w'=>W=w'∧e=.returned (.int .i64 ((bt:Nat):Int)):=fun W=>by rw[HBT.out];exact Tryz.leading _ W htop64
 have H1:Hid (shE (bt:Int)=0):=Lib.hid (if_neg (by omega))
 have H2:∀ X,Hid (shlV X (bt:Int)=X*2^bt):=fun X=>Lib.hid (if_neg (by omega))
 have HE:Hid (dvE M=0):=Lib.hid (dvE_pos hM)
 have HR:Hid (dvR N M=N % M):=Lib.hid (dvR_pos hM)
 obtain⟨cc,hcc⟩:∃ c,c=cmpI N M:=⟨_,rfl⟩
 have hc2:¬ (cc < 0):=by
  rw[hcc]
  rcases Nat.lt_or_ge M N with h | h
  ·rw[cmpI_nat_gt h];omega
  ·rw[cmpI_nat_eq (by omega)];omega
 have HC:=Lib.hid hcc
 have hcap1:=hs1.le
 have hcap2:=hs2.le
 have hmx1:=hs1.max
 have hmx2:=hs2.max
 have hyb0:((ys.length:Int)==0)=false:=beq_eq_false_iff_ne.2 (by omega)
 have hyb1:((ys.length:Int)==1)=false:=beq_eq_false_iff_ne.2 (by omega)
 have hyb2:ys.length=m+2:=by omega
 have HYB:=Lib.hid hyb2
 have HXE:=Lib.hid hxe
 have HYE:=Lib.hid hye
 have HXN:=Lib.hid hxn
 have HYN:=Lib.hid hyn
 have hw0:∀ {W:World},Ext w W→W.cell? ⟨b2,o2+(ys.length - 1),none⟩=some (.int .u64 ((lg ys (ys.length - 1):Nat):Int)):=fun h=>h.cell hctop
 clear hcc hye hxe hbt hm hfit h1 h2 hs1 hs2 hyb2 hctop hxn hyn
 refine(callsIn_wide (n:=10)).1 ?_
 refine callsIn_of_wp_marks Tryz.func37 rfl trivial ?_ rfl
 simp only[Tryz.ntmps37,List.size_toArray,List.length_cons,List.length_nil,Nat.reduceAdd,Nat.reduceSub,Array.replicate_succ,Array.replicate_zero,List.push_toArray,List.append_toArray,List.nil_append,List.cons_append]
 refine wpIn_wide.2 ?_
 go_wp2_with fail
 refine(Tryz.natCmp (h1'.ext (Ext.alloc1 _ _)) (h2'.ext (Ext.alloc1 _ _))).mono ?_
 rintro e w1 ⟨rfl,hE1⟩
 rw[← HC.out]
 have hE2:=(Ext.alloc1 w (.cells #[.int .i64 (ys.length:Int)] 3)).trans hE1
 have bn1:=box_ext hE1 (Boxed.new w 3 (.int .i64 (ys.length:Int)))
 have hbn1:=bn1.cell
 have hcw:=hw0 hE2
 go_wp2_with fail
 refine(hlead _).mono ?_
 rintro e w' ⟨rfl,rfl⟩
 go_wp2_with fail
 refine(Tryz.divShlO (h2'.ext hE2) s2 (by omega) (bt:Int)).mono ?_
 rintro e w2 ⟨vv,rfl,⟨vs,hov,hvl,hvn,hve⟩,hE3⟩
 rw[H1.out]
 rw[(H2 M).out]at hve
 have hvs1:vs.length≤ys.length:=by
  refine(len_le_iff (by rw[B64_eq];omega) hvl hvn _).2 ?_
  rw[hve,HYB.out];exact hVlt
 have hvs2:ys.length≤vs.length:=by
  refine(len_le_iff (by rw[B64_eq];omega) hl2 HYN.out _).2 ?_
  rw[HYE.out]
  refine Nat.lt_of_le_of_lt (Nat.le_mul_of_pos_right M (Nat.two_pow_pos bt)) ?_
  rw[← hve];exact ev_lt hvl
 have hvs3:vs.length=ys.length:=Nat.le_antisymm hvs1 hvs2
 obtain⟨gv,cv,rfl,hgv,hcv,hcvm⟩:=hov.some (by omega)
 rw[hvs3]at hcv
 rw[hvs3]
 have HVE:=Lib.hid hve
 have HVL:=Lib.hid hvs3
 have hgvl:=hov.head.2
 have HVN:=Lib.hid hvn
 clear hve hvs3 hvs1 hvs2 hvn
 have hE4:=hE2.trans hE3
 have hs4:=hE4.size
 go_wp2_with fail
 refine(Tryz.divShlO (h1'.ext (hE4.alloc _)) s1 (by omega) (bt:Int)).mono ?_
 rintro e w3 ⟨vu0,rfl,⟨us,hou,hul,hun,hue⟩,hE5⟩
 rw[H1.out]
 rw[(H2 N).out]at hue
 have hus1:us.length≤xs.length+1:=by
  refine(len_le_iff (by rw[B64_eq];omega) hul hun _).2 ?_
  rw[hue,← HXE.out,Nat.pow_succ]
  exact Nat.lt_of_lt_of_le (Nat.mul_lt_mul_of_pos_right (ev_lt hl1) (Nat.two_pow_pos _)) (Nat.mul_le_mul_left _ (by rw[B64_two];exact Nat.pow_le_pow_right (by omega) (by omega)))
 have hus2:xs.length≤us.length:=by
  refine(len_le_iff (by rw[B64_eq];omega) hl1 HXN.out _).2 ?_
  rw[HXE.out]
  refine Nat.lt_of_le_of_lt (Nat.le_mul_of_pos_right N (Nat.two_pow_pos bt)) ?_
  rw[← hue];exact ev_lt hul
 obtain⟨gu0,cu0,rfl,-,hcu0,hcum0⟩:=hou.some (by omega)
 have HUE:=Lib.hid hue
 clear hue hun
 have hE6:Ext w (w3.alloc (.cells #[.slice (some ⟨gu0,0,none⟩) us.length cu0] 41)):=((hE4.alloc _).trans hE5).alloc _
 have hE45:=hE4.alloc (.cells #[.slice (some ⟨gv,0,none⟩) ys.length cv] 41)
 have q0:Boxed (w3.alloc (.cells #[.slice (some ⟨gu0,0,none⟩) us.length cu0] 41)) w.heap.size 3 (.int .i64 (ys.length:Int)):=(box_ext hE5 ((box_ext hE3 bn1).alloc _)).alloc _
 have q1:Boxed (w3.alloc (.cells #[.slice (some ⟨gu0,0,none⟩) us.length cu0] 41)) w2.heap.size 41 (.slice (some ⟨gv,0,none⟩) ys.length cv):=(box_ext hE5 (Boxed.new w2 _ _)).alloc _
 have q2:=Boxed.new w3 41 (.slice (some ⟨gu0,0,none⟩) us.length cu0)
 rw[HVL.out]at hov
 have q3:Own (w3.alloc (.cells #[.slice (some ⟨gu0,0,none⟩) us.length cu0] 41)) w.heap.size 61 (.slice (some ⟨gv,0,none⟩) ys.length cv) vs:=(((hov.mono hE2.size).alloc _).ext hE5).alloc _
 have q4:Own (w3.alloc (.cells #[.slice (some ⟨gu0,0,none⟩) us.length cu0] 41)) (w2.heap.size+1) 61 (.slice (some ⟨gu0,0,none⟩) us.length cu0) us:=(by simpa using hou:Own w3 (w2.heap.size+1) 61 (.slice (some ⟨gu0,0,none⟩) us.length cu0) us).alloc _
 have hsz1:=hE2.size
 have hsz2:w2.heap.size+1≤w3.heap.size:=by simpa using hE5.size
 have hsz3:=bn1.lt
 have hsz4:=hE3.size
 clear hE1 hE3 hE4 hE5 hbn1 bn1 hcw hw0 hou hov hlead H1 H2 h1' h2' hE45
 go_wp2_with fail
 go_loopw [64,65,66,67,68,69,70,71] (fun _ _ _ _ _ _ _ _ wr=>∃ (gu cu:Nat) (R:List Nat),Boxed wr w3.heap.size 41 (.slice (some ⟨gu,0,none⟩) R.length cu)∧Own wr (w2.heap.size+1) 61 (.slice (some ⟨gu,0,none⟩) R.length cu) R∧Lim B64 R ∧
   R.length≤xs.length+1∧xs.length≤R.length∧Hid (ev B64 R=N*2^bt)∧Ext w wr∧Boxed wr w.heap.size 3 (.int .i64 (ys.length:Int))∧Boxed wr w2.heap.size 41 (.slice (some ⟨gv,0,none⟩) ys.length cv)∧Own wr w.heap.size 61 (.slice (some ⟨gv,0,none⟩) ys.length cv) vs)
  (fun _ _ _ _ _ _ _ _ wr=>xs.length+1 - boxLen wr w3.heap.size)
 case atStart=>exact⟨gu0,cu0,us,q2,q4,hul,hus1,hus2,HUE,hE6,q0,q1,q3⟩
 case round=>
  obtain⟨gu,cu,R,p2,p4,pl,pr1,pr2,pe,pE,p0,p1,p3⟩:=hrel
  clear q0 q1 q2 q3 q4 hE6 hus1 hus2 hul HUE
  have hcu:=p2.cell
  have hfu:=p2.frozen
  have hcn:=p0.cell
  obtain⟨hgu0,hgu⟩:=p4.head
  by_cases hlt:R.length≤xs.length
  ·have hlI:(R.length:Int)≤(xs.length:Int):=by omega
   go_wp2_with (at_builtin;go_loud (refine append_one Tryz.underlying41 Tryz.infoU rfl _ _ rfl (w2.heap.size+1) _ R 0 _ (by rfl) (by rfl) p4 (by rfl) (by omega) (by omega) ?_);intro v' w5 hown5 hgrow5;obtain⟨g5,c5,rfl,-,-,-⟩:=hown5.some (by simp);have p25:=(p2.alloc (.cells #[.int .u64 0] 61)).kept hgrow5 (p2.not_row (by decide) p4);have hfu5:=p25.frozen;have hcu5:=p25.cell)
   have pl5:=pl.snoc (x:=0) B64_pos
   have hR5:(R++[0]).length=R.length+1:=by simp
   have hR6:=Lib.hid hR5
   rw[hR5]at hown5
   clear hR5
   go_roundw
   case rel=>
    have hR5:=hR6.out
    refine⟨g5,c5,R++[0],by rw[hR5];exact p25.set _,by rw[hR5];exact hown5.kept (grownBy_setCell' _ w3.heap.size _) (.inr (fun e=>(p25.not_row (by decide) hown5) e.symm)),pl5,by omega,by omega,Lib.hid (by rw[ev_snoc,Nat.mul_zero];exact pe.out),?_,?_,?_,?_⟩
    ·exact(((pE.alloc _).grown hgrow5 (fun k e=>by cases e;show w.heap.size≤gu;omega)).setCell (p:=⟨w3.heap.size,0,none⟩) (by show _≤w3.heap.size;omega) _)
    ·exact((p0.alloc _).kept hgrow5 (p0.not_row (by decide) p4)).other (by omega) _
    ·exact((p1.alloc _).kept hgrow5 (p1.not_row (by decide) p4)).other (by omega) _
    ·exact((p3.alloc _).kept hgrow5 (.inr (by simp[Value.ownBlock];omega))).kept (grownBy_setCell' _ w3.heap.size _) (.inr (by simp[Value.ownBlock];omega))
   case measure=>
    have hR5:=hR6.out
    rw[boxLen_eq p2,boxLen_eq (p25.set _)]
    omega
  ·have hlI:¬ ((R.length:Int)≤(xs.length:Int)):=by omega
   have hRl:R.length=xs.length+1:=by omega
   have hgvu:gv < gu:=by omega
   go_wp2_with (at_make;go_loud (refine make_full Tryz.underlying41 Tryz.infoU rfl _ _ rfl w.heap.size (xs.length - ys.length+1) _ _ (by rfl) (by rfl) (by omega) (by omega) (by omega) (by omega) ?_);intro w6 hown6 hgrow6)
   refine(Tryz.backward_ok _ _ _ _).mono ?_
   rintro e w' ⟨rfl,rfl⟩
   go_wp2_with fail
   refine(wpIn_wide (n:=10)).1 ?_
   have u3:w3.heap.size≠gu:=by
    have:=p2.not_row (by decide) p4
    simpa [Value.ownBlock] using this
   have u4:=p2.lt
   have u1:w.heap.size < gu:=by omega
   have u2:w2.heap.size≠gu:=by omega
   obtain⟨mq,hmq⟩:∃ mq,mq=xs.length - ys.length+1:=⟨_,rfl⟩
   rw[← hmq]at hown6
   simp only[← hmq]
   have hmq1:mq+ys.length=xs.length+1:=by omega
   have hgq:wr.heap.size < w6.heap.size:=hown6.head.2
   have hs6:=hgrow6.size
   have u5:w6.heap.size≠gu:=by omega
   have u6:w6.heap.size+1≠gu:=by omega
   have u7:gv≠gu:=by omega
   have z0:=(((p0.kept hgrow6 (by simp)).alloc (.cells #[.slice (some ⟨wr.heap.size,0,none⟩) mq mq] 41)).alloc (.cells #[.slice (some ⟨wr.heap.size,0,none⟩) mq mq] 41))
   have z1:=(((p1.kept hgrow6 (by simp)).alloc (.cells #[.slice (some ⟨wr.heap.size,0,none⟩) mq mq] 41)).alloc (.cells #[.slice (some ⟨wr.heap.size,0,none⟩) mq mq] 41))
   have z2:=(((p2.kept hgrow6 (by simp)).alloc (.cells #[.slice (some ⟨wr.heap.size,0,none⟩) mq mq] 41)).alloc (.cells #[.slice (some ⟨wr.heap.size,0,none⟩) mq mq] 41))
   have z3:=(((p3.kept hgrow6 (.inr (by simp[Value.ownBlock]))).alloc (.cells #[.slice (some ⟨wr.heap.size,0,none⟩) mq mq] 41)).alloc (.cells #[.slice (some ⟨wr.heap.size,0,none⟩) mq mq] 41))
   have z4:=((((p4.mono (show w.heap.size≤w2.heap.size+1 by omega)).kept hgrow6 (.inr (by simp[Value.ownBlock]))).alloc (.cells #[.slice (some ⟨wr.heap.size,0,none⟩) mq mq] 41)).alloc (.cells #[.slice (some ⟨wr.heap.size,0,none⟩) mq mq] 41))
   have z5:=(Boxed.new w6 41 (.slice (some ⟨wr.heap.size,0,none⟩) mq mq)).alloc (.cells #[.slice (some ⟨wr.heap.size,0,none⟩) mq mq] 41)
   have z6:=Boxed.new (w6.alloc (.cells #[.slice (some ⟨wr.heap.size,0,none⟩) mq mq] 41)) 41 (.slice (some ⟨wr.heap.size,0,none⟩) mq mq)
   have z7:=((hown6.alloc (.cells #[.slice (some ⟨wr.heap.size,0,none⟩) mq mq] 41)).alloc (.cells #[.slice (some ⟨wr.heap.size,0,none⟩) mq mq] 41))
   have zE:=(((pE.grown hgrow6 (fun k e=>by cases e)).alloc (.cells #[.slice (some ⟨wr.heap.size,0,none⟩) mq mq] 41)).alloc (.cells #[.slice (some ⟨wr.heap.size,0,none⟩) mq mq] 41))
   simp only[World.size_alloc]at z6
   obtain⟨X,hX⟩:∃ X,X=N*2^bt:=⟨_,rfl⟩
   obtain⟨V,hV⟩:∃ V,V=M*2^bt:=⟨_,rfl⟩
   have hVp:0 < V:=by rw[hV];exact Nat.mul_pos hM (Nat.two_pow_pos _)
   have hmq0:dmH xs.length mq X V 0 R (List.replicate mq 0):=by
    refine⟨pl,hRl,?_,List.length_replicate,fun j h1 h2=>by omega,fun j _=>by rw[List.getD_eq_getElem?_getD,List.getElem?_replicate];split <;> rfl⟩
    unfold dmR
    rw[pe.out,← hX,Nat.sub_zero,Nat.mod_eq_of_lt]
    have e1:X < B64^xs.length*2^bt:=by rw[hX,← HXE.out];exact Nat.mul_lt_mul_of_pos_right (ev_lt hl1) (Nat.two_pow_pos _)
    refine Nat.lt_of_lt_of_le e1 ?_
    have e2:=HYN.out.ge (b:=B64) (by omega)
    rw[HYE.out]at e2
    rw[hV,show xs.length=(ys.length - 1)+mq from by omega,Nat.pow_add,Nat.mul_right_comm]
    exact Nat.mul_le_mul_right _ (Nat.mul_le_mul_right _ e2)
   rw[hRl]at z2 z4
   have hI0:dmI w w2.heap.size w3.heap.size w6.heap.size (w6.heap.size+1) 41 3 61 gv cv gu cu wr.heap.size xs.length ys.length mq vs X V 0
     ((w6.alloc (.cells #[.slice (some ⟨wr.heap.size,0,none⟩) mq mq] 41)).alloc (.cells #[.slice (some ⟨wr.heap.size,0,none⟩) mq mq] 41)):=
    ⟨⟨zE,z0,z1,z2,z5,z6,z3⟩,R,List.replicate mq 0,z4,z7,Lib.hid hmq0⟩
   have hVV:ev B64 vs=V:=by rw[HVE.out,hV]
   have HVV:=Lib.hid hVV
   have HX:=Lib.hid hX
   have HV:=Lib.hid hV
   have hcum:cu≤9223372036854775807:=by
    obtain⟨g',c',hh,_,_,hc⟩:=z4.some (by omega)
    rw[(Value.slice.inj hh).2.2];exact hc
   have hcul:xs.length+1≤cu:=by
    obtain⟨g',c',hh,_,hc,_⟩:=z4.some (by omega)
    rw[(Value.slice.inj hh).2.2];omega
   clear z0 z1 z2 z3 z4 z5 z6 z7 zE hmq0 p0 p1 p2 p3 p4 pe pE hRl hown6 hmq hVV hX hV hcu hfu hcn
   refine wpIn_range (gf:=103) (lb:=#[.pointer (some ⟨w6.heap.size+1,0,none⟩)]) rfl (enters_of Tryz.func103 (by kernel_rfl) rfl)
    (Tryz.backward_iter (w6.heap.size+1) (some ⟨wr.heap.size,0,none⟩) wr.heap.size 0 mq mq (fun _=>.int .u64 0) (Nat.le_refl _) (by omega) (fun _=>rfl)) (fun _=>rfl)
    (dmI w w2.heap.size w3.heap.size w6.heap.size (w6.heap.size+1) 41 3 61 gv cv gu cu wr.heap.size xs.length ys.length mq vs X V) shrX (fun k=>dmI_turns _ (by simp;omega) k) (fun _ _=>Turns.pure _ _)
    (fun k W o h=>dmI_alloc h o) (fun _ _ h=>⟨h.1.ext (Ext.drew1 _),h.2⟩) hI0 ?can ?round ?done ?stop
   case can=>
    rintro k W hk ⟨⟨_,_,_,_,_,p5,_⟩,R2,Q2,_,p7,hH⟩
    refine⟨p5.cell,fun hlt=>⟨rfl,?_⟩⟩
    obtain⟨_,_,_,h4,_,h6⟩:=hH.out
    rw[Nat.zero_add,p7.cellAt (by omega)]
    unfold lg
    rw[h6 _ (by omega)]
    rfl
   case stop=>
    rintro D c k W hD hk hX
    exact hX.elim
   case round=>
    intro l k W hk _
    simp only[backVals]
    obtain⟨j,hj⟩:∃ j:Nat,j=mq - 1 - k:=⟨_,rfl⟩
    rw[← hj]
    have HJ:=Lib.hid hj;clear hj
    simp only[fold2,List.setIfInBounds_toArray,List.set_cons_succ,List.set_cons_zero]
    gi_wp2
    refine roundThen.mk ?_
    rintro W2 ⟨pB,R2,Q2,p5,p7,hH⟩
    have pB':=pB
    obtain⟨hE,p0,p1,p2,p3,-,pv⟩:=pB'
    have hj:=HJ.out
    have hjm:j < mq:=by omega
    obtain⟨e1,e2,e3,e4,e5,e6⟩:=hH.out
    have hmk:mq - k=j+1:=by omega
    rw[hmk]at e3 e5
    have hvm:vs.length=m+2:=by rw[HVL.out,HYB.out]
    have hymm:ys.length=m+2:=HYB.out
    have hvlim:Lim B64 vs:=hvl
    obtain⟨n1,n2,n3,n4⟩:=dm_need e3 e1 hvlim hvm HVV.out hVp (by omega)
    have hc0:=p0.cell
    have hcv:=p1.cell
    have hcu:=p2.cell
    have hcq:=p3.cell
    have ha:=p5.cellAt (i:=j+ys.length) (by omega)
    have hb:=p5.cellAt (i:=j+(ys.length - 1)) (by omega)
    have hc:=p5.cellAt (i:=j+(ys.length - 2)) (by omega)
    have ht:=pv.cellAt (i:=ys.length - 1) (by omega)
    have hn:=pv.cellAt (i:=ys.length - 2) (by omega)
    have hfq:=p7.frozenAt j
    have hcq2:=p7.cellAt (i:=j) (by omega)
    obtain⟨xa,hxa⟩:∃ x,x=lg R2 (j+ys.length):=⟨_,rfl⟩
    obtain⟨xb,hxb⟩:∃ x,x=lg R2 (j+(ys.length - 1)):=⟨_,rfl⟩
    obtain⟨xc,hxc⟩:∃ x,x=lg R2 (j+(ys.length - 2)):=⟨_,rfl⟩
    obtain⟨xt,hxt⟩:∃ x,x=lg vs (ys.length - 1):=⟨_,rfl⟩
    obtain⟨xn,hxn⟩:∃ x,x=lg vs (ys.length - 2):=⟨_,rfl⟩
    obtain⟨xq,hxq⟩:∃ x,x=lg Q2 j:=⟨_,rfl⟩
    rw[← hxa]at ha
    rw[← hxb]at hb
    rw[← hxc]at hc
    rw[← hxt]at ht
    rw[← hxn]at hn
    rw[← hxq]at hcq2
    have ra:xa < B64:=by rw[hxa];exact lg_lt e1 _
    have rb:xb < B64:=by rw[hxb];exact lg_lt e1 _
    have rc:xc < B64:=by rw[hxc];exact lg_lt e1 _
    have rt:xt < B64:=by rw[hxt];exact lg_lt hvlim _
    have rn:xn < B64:=by rw[hxn];exact lg_lt hvlim _
    have rt0:0 < xt:=by
     rcases HVN.out with h | h
     ·omega
     ·rw[show vs.length - 1=ys.length - 1 from by omega]at h
      rw[hxt];exact Nat.pos_of_ne_zero h
    have rat:xa≤xt:=by
     rw[hxa,hxt]
     have:=n4
     rwa [← hymm,show m+1=ys.length - 1 from by omega]at this
    have HXT:=Lib.hid hxt
    have HQL:=Lib.hid e4
    have HXN:=Lib.hid hxn
    have hcells:∃ o:Obj,W2.heap[gu]? = some o∧o.isCells=true:=by
     rcases p5.2 with ⟨h,_⟩ | ⟨g',cap',cur,h,_,hb',_⟩
     ·cases h
     ·injection h with h1 h2 h3
      injection h1 with h1
      injection h1 with h1
      exact⟨_,by rw[h1];exact hb',rfl⟩
    have hgu:∀ W,Calls Tryz.prog 77 #[.int .u64 (xa:Int),.int .u64 (xb:Int),.int .u64 (xc:Int),.int .u64 (xt:Int),.int .u64 (xn:Int)] W fun e w'=>(∃ k,w'=W.drewN k)∧∃ q:Nat,e=.returned (.int .u64 (q:Int))∧guessR xa xb xc xt xn q:=fun W=>Tryz.guess rat rb rc rt rn rt0 W
    have hfitq:∀ g,guessR xa xb xc xt xn g→g*ev B64 vs≤win R2 j (ys.length+1)+ev B64 vs∧win R2 j (ys.length+1) < (g+1)*ev B64 vs∧g < B64:=fun g hg=>by
     obtain⟨t1,t2⟩:=win_top (o:=j) (m:=m) e1
     obtain⟨u1,u2⟩:=ev_top hvlim hvm
     have h1:ys.length+1=m+3:=by omega
     have h2:ys.length - 1=m+1:=by omega
     have h3:ys.length - 2=m:=by omega
     rw[h1]
     rw[h2]at hxb hxt
     rw[h3]at hxc hxn
     rw[hymm]at hxa
     have h4:=guess_fit (V:=ev B64 vs) (W:=win R2 j (m+3)) (P:=B64^m) hg (by rw[hxt,hxn];exact u1) (by rw[hxa,hxb,hxc];exact t1) u2 rt0 t2 (by rw[HVV.out];exact n3)
     exact⟨h4.1,h4.2,hg.1⟩
    have htk:∀ (W:World) (g:Nat),Ext W2 W→guessR xa xb xc xt xn g→Calls Tryz.prog 76 #[.slice (some ⟨gu,j,none⟩) (ys.length+1) (cu - j),.slice (some ⟨gv,0,none⟩) ys.length cv,.int .u64 (g:Int)] W fun e w'=>∃ (R':List Nat) (q':Nat),e=.returned (.int .u64 (q':Int)) ∧
      Own w' w.heap.size 61 (.slice (some ⟨gu,0,none⟩) (xs.length+1) cu) R'∧Own w' w.heap.size 61 (.slice (some ⟨wr.heap.size,0,none⟩) mq mq) Q2 ∧
      dmB w w2.heap.size w3.heap.size w6.heap.size (w6.heap.size+1) 41 3 61 gv cv gu cu wr.heap.size xs.length ys.length mq vs w'∧W.grownBy w' (some gu)∧q' < B64∧Hid (dmH xs.length mq X V (k+1) R' (Q2.set j q')):=fun W g hx hg=>by
     obtain⟨f1,f2,f3⟩:=hfitq g hg
     refine(Tryz.taken (p5.ext hx) e1 ((pv.ext hx).nt hvlim) (by simp[Value.ownBlock];omega) HVL.out (by omega) f3 (by omega) (by omega) f1).mono ?_
     rintro e w' ⟨R',q',rfl,o1,o2,o3,o4,o5,o6,o7,o8⟩
     refine⟨R',q',rfl,o1,(p7.ext hx).kept o2 (.inr (by simp[Value.ownBlock];omega)),(pB.ext hx).kept o2 u1 u2 u3 u5 u6 u7,o2,o7,Lib.hid ?_⟩
     rw[HVV.out]at o6 o8 f2
     obtain⟨d1,d2⟩:=digit_is hVp o6 o8 f2
     have h1:ys.length+1=m+3:=by omega
     rw[h1]at d1 d2
     obtain⟨g1,g2⟩:=dm_step (m:=m) e3 n1 n2 o3 (fun i hi=>o5 i (by omega)) (fun i hi=>by
      refine high_zero e1 (m:=j+(m+3)) ?_ i hi
      have h8:dmR X V (j+1) R2:=e3
      unfold dmR at h8
      rw[h8]
      refine Nat.lt_of_lt_of_le (Nat.mod_lt _ (Nat.mul_pos hVp (Nat.pow_pos B64_pos))) ?_
      have h9:=ev_lt hvlim
      rw[HVV.out,hvm]at h9
      have:=Nat.mul_le_mul_right (B64^(j+1)) (Nat.le_of_lt h9)
      rw[← Nat.pow_add]at this
      rwa [show j+(m+3)=m+2+(j+1) from by omega]) (by omega) d1 d2
     refine⟨o4,o3.trans e2,by rw[show mq - (k+1)=j from by omega];exact g1,by rw[List.length_set];exact e4,fun i h2 h3=>?_,fun i h2=>?_⟩
     ·by_cases hij:i=j
      ·subst hij;rw[getD_set_eq (by omega)];exact g2
      ·rw[getD_set_ne hij];exact e5 i (by omega) h3
     ·rw[getD_set_ne (by omega)];exact e6 i (by omega)
    have hj0:(0:Int)≤(j:Int):=by omega
    have hjI:(j:Int) < (mq:Int):=by omega
    have i1:(j:Int)≤(j:Int)+(ys.length:Int)+1:=by omega
    have i2:(j:Int)+(ys.length:Int)+1≤(cu:Int):=by omega
    have i3:(j:Int)+(ys.length:Int)+1≤(xs.length:Int)+1:=by omega
    clear hj hxa hxb hxc hxt hxn hxq e1 e2 e3 e4 e5 e6 hmk hvm hymm hfitq hH n1 n2 n3 n4
    gi_wp2_with fail
    simp only[show j+ys.length+1 - j=ys.length+1 from by omega]
    have s1:IntKind.i64.wrap ((ys.length:Int) - 1)=((ys.length - 1:Nat):Int):=by rw[IntWalk.i64_in _ (by omega)];omega
    have s2:IntKind.i64.wrap ((ys.length:Int) - 2)=((ys.length - 2:Nat):Int):=by rw[IntWalk.i64_in _ (by omega)];omega
    have l1:ys.length - 1 < ys.length:=by omega
    have l2:ys.length - 2 < ys.length:=by omega
    have l3:(ys.length:Int) < (ys.length:Int)+1:=by omega
    have l4:((ys.length - 1:Nat):Int) < (ys.length:Int)+1:=by omega
    have l5:((ys.length - 2:Nat):Int) < (ys.length:Int)+1:=by omega
    refine held_start (fun W:World=>W.cell? ⟨w6.heap.size,0,none⟩=some (.slice (some ⟨wr.heap.size,0,none⟩) mq mq)∧W.cell? ⟨w2.heap.size,0,none⟩=some (.slice (some ⟨gv,0,none⟩) ys.length cv)∧W.cell? ⟨w.heap.size,0,none⟩=some (.int .i64 (ys.length:Int))∧W.cell? ⟨gv,ys.length - 1,none⟩=some (.int .u64 (xt:Int))∧W.cell? ⟨gv,ys.length - 2,none⟩=some (.int .u64 (xn:Int))∧W.frozen? ⟨wr.heap.size,j,none⟩=false) 32 (by kernel_rfl) (by kernel_rfl) rfl (by rintro⟨_,_,h⟩;exact h) ?_ (fun hHeld=>?_)
    ·try dsimp only
     exact⟨hcq,hcv,hc0,ht,hn,hfq⟩
    refine held_take 0 rfl (by kernel_rfl) (fun _ _ _ h=>h) hHeld (by rfl) (v:=?_) ?_ ?_
    rotate_left 1
    ·(intro w hSw;(try dsimp only at hSw);go_simp)
     all_goals with_reducible rfl
    try simp only[Act.put,List.setIfInBounds_toArray,List.set_cons_zero,List.set_cons_succ]
    refine held_take 1 rfl (by kernel_rfl) (fun _ _ _ h=>h) hHeld (by rfl) (v:=?_) ?_ ?_
    rotate_left 1
    ·(intro w hSw;(try dsimp only at hSw);go_simp)
     all_goals with_reducible rfl
    try simp only[Act.put,List.setIfInBounds_toArray,List.set_cons_zero,List.set_cons_succ]
    refine held_take 2 rfl (by kernel_rfl) (fun _ _ _ h=>h) hHeld (by rfl) (v:=?_) ?_ ?_
    rotate_left 1
    ·(intro w hSw;(try dsimp only at hSw);go_simp)
     all_goals with_reducible rfl
    try simp only[Act.put,List.setIfInBounds_toArray,List.set_cons_zero,List.set_cons_succ]
    refine held_take 3 rfl (by kernel_rfl) (fun _ _ _ h=>h) hHeld (by rfl) (v:=?_) ?_ ?_
    rotate_left 1
    ·(intro w hSw;(try dsimp only at hSw);go_simp)
     all_goals with_reducible rfl
    try simp only[Act.put,List.setIfInBounds_toArray,List.set_cons_zero,List.set_cons_succ]
    refine held_take 4 rfl (by kernel_rfl) (fun _ _ _ h=>h) hHeld (by rfl) (v:=?_) ?_ ?_
    rotate_left 1
    ·(intro w hSw;(try dsimp only at hSw);go_simp)
     all_goals with_reducible rfl
    try simp only[Act.put,List.setIfInBounds_toArray,List.set_cons_zero,List.set_cons_succ]
    refine held_take 5 rfl (by kernel_rfl) (fun _ _ _ h=>h) hHeld (by rfl) (v:=?_) ?_ ?_
    rotate_left 1
    ·(intro w hSw;(try dsimp only at hSw);go_simp)
     all_goals with_reducible rfl
    try simp only[Act.put,List.setIfInBounds_toArray,List.set_cons_zero,List.set_cons_succ]
    refine held_take 6 rfl (by kernel_rfl) (fun _ _ _ h=>h) hHeld (by rfl) (v:=?_) ?_ ?_
    rotate_left 1
    ·(intro w hSw;(try dsimp only at hSw);go_simp)
     all_goals with_reducible rfl
    try simp only[Act.put,List.setIfInBounds_toArray,List.set_cons_zero,List.set_cons_succ]
    refine held_take 8 rfl (by kernel_rfl) (fun _ _ _ h=>h) hHeld (by rfl) (v:=?_) ?_ ?_
    rotate_left 1
    ·(intro w hSw;(try dsimp only at hSw);go_simp)
     all_goals with_reducible rfl
    try simp only[Act.put,List.setIfInBounds_toArray,List.set_cons_zero,List.set_cons_succ]
    refine held_take 9 rfl (by kernel_rfl) (fun _ _ _ h=>h) hHeld (by rfl) (v:=?_) ?_ ?_
    rotate_left 1
    ·(intro w hSw;(try dsimp only at hSw);go_simp)
     all_goals with_reducible rfl
    try simp only[Act.put,List.setIfInBounds_toArray,List.set_cons_zero,List.set_cons_succ]
    refine held_take 10 rfl (by kernel_rfl) (fun _ _ _ h=>h) hHeld (by rfl) (v:=?_) ?_ ?_
    rotate_left 1
    ·(intro w hSw;(try dsimp only at hSw);go_simp)
     all_goals with_reducible rfl
    try simp only[Act.put,List.setIfInBounds_toArray,List.set_cons_zero,List.set_cons_succ]
    refine held_take 11 rfl (by kernel_rfl) (fun _ _ _ h=>h) hHeld (by rfl) (v:=?_) ?_ ?_
    rotate_left 1
    ·(intro w hSw;(try dsimp only at hSw);go_simp)
     all_goals with_reducible rfl
    try simp only[Act.put,List.setIfInBounds_toArray,List.set_cons_zero,List.set_cons_succ]
    refine held_take 13 rfl (by kernel_rfl) (fun _ _ _ h=>h) hHeld (by rfl) (v:=?_) ?_ ?_
    rotate_left 1
    ·(intro w hSw;(try dsimp only at hSw);go_simp)
     all_goals with_reducible rfl
    try simp only[Act.put,List.setIfInBounds_toArray,List.set_cons_zero,List.set_cons_succ]
    refine held_take 14 rfl (by kernel_rfl) (fun _ _ _ h=>h) hHeld (by rfl) (v:=?_) ?_ ?_
    rotate_left 1
    ·(intro w hSw;(try dsimp only at hSw);go_simp)
     all_goals with_reducible rfl
    try simp only[Act.put,List.setIfInBounds_toArray,List.set_cons_zero,List.set_cons_succ]
    refine held_take 15 rfl (by kernel_rfl) (fun _ _ _ h=>h) hHeld (by rfl) (v:=?_) ?_ ?_
    rotate_left 1
    ·(intro w hSw;(try dsimp only at hSw);go_simp)
     all_goals with_reducible rfl
    try simp only[Act.put,List.setIfInBounds_toArray,List.set_cons_zero,List.set_cons_succ]
    refine held_take 16 rfl (by kernel_rfl) (fun _ _ _ h=>h) hHeld (by rfl) (v:=?_) ?_ ?_
    rotate_left 1
    ·(intro w hSw;(try dsimp only at hSw);go_simp)
     all_goals with_reducible rfl
    try simp only[Act.put,List.setIfInBounds_toArray,List.set_cons_zero,List.set_cons_succ]
    refine held_take 18 rfl (by kernel_rfl) (fun _ _ _ h=>h) hHeld (by rfl) (v:=?_) ?_ ?_
    rotate_left 1
    ·(intro w hSw;(try dsimp only at hSw);go_simp)
     all_goals with_reducible rfl
    try simp only[Act.put,List.setIfInBounds_toArray,List.set_cons_zero,List.set_cons_succ]
    refine held_take 19 rfl (by kernel_rfl) (fun _ _ _ h=>h) hHeld (by rfl) (v:=?_) ?_ ?_
    rotate_left 1
    ·(intro w hSw;(try dsimp only at hSw);go_simp)
     all_goals with_reducible rfl
    try simp only[Act.put,List.setIfInBounds_toArray,List.set_cons_zero,List.set_cons_succ]
    refine held_take 20 rfl (by kernel_rfl) (fun _ _ _ h=>h) hHeld (by rfl) (v:=?_) ?_ ?_
    rotate_left 1
    ·(intro w hSw;(try dsimp only at hSw);go_simp)
     all_goals with_reducible rfl
    try simp only[Act.put,List.setIfInBounds_toArray,List.set_cons_zero,List.set_cons_succ]
    refine held_take 21 rfl (by kernel_rfl) (fun _ _ _ h=>h) hHeld (by rfl) (v:=?_) ?_ ?_
    rotate_left 1
    ·(intro w hSw;(try dsimp only at hSw);go_simp)
     all_goals with_reducible rfl
    try simp only[Act.put,List.setIfInBounds_toArray,List.set_cons_zero,List.set_cons_succ]
    refine held_take 22 rfl (by kernel_rfl) (fun _ _ _ h=>h) hHeld (by rfl) (v:=?_) ?_ ?_
    rotate_left 1
    ·(intro w hSw;(try dsimp only at hSw);go_simp)
     all_goals with_reducible rfl
    try simp only[Act.put,List.setIfInBounds_toArray,List.set_cons_zero,List.set_cons_succ]
    refine held_take 23 rfl (by kernel_rfl) (fun _ _ _ h=>h) hHeld (by rfl) (v:=?_) ?_ ?_
    rotate_left 1
    ·(intro w hSw;(try dsimp only at hSw);go_simp)
     all_goals with_reducible rfl
    try simp only[Act.put,List.setIfInBounds_toArray,List.set_cons_zero,List.set_cons_succ]
    refine held_take 24 rfl (by kernel_rfl) (fun _ _ _ h=>h) hHeld (by rfl) (v:=?_) ?_ ?_
    rotate_left 1
    ·(intro w hSw;(try dsimp only at hSw);go_simp)
     all_goals with_reducible rfl
    try simp only[Act.put,List.setIfInBounds_toArray,List.set_cons_zero,List.set_cons_succ]
    refine held_take 25 rfl (by kernel_rfl) (fun _ _ _ h=>h) hHeld (by rfl) (v:=?_) ?_ ?_
    rotate_left 1
    ·(intro w hSw;(try dsimp only at hSw);go_simp)
     all_goals with_reducible rfl
    try simp only[Act.put,List.setIfInBounds_toArray,List.set_cons_zero,List.set_cons_succ]
    refine held_take 26 rfl (by kernel_rfl) (fun _ _ _ h=>h) hHeld (by rfl) (v:=?_) ?_ ?_
    rotate_left 1
    ·(intro w hSw;(try dsimp only at hSw);go_simp)
     all_goals with_reducible rfl
    try simp only[Act.put,List.setIfInBounds_toArray,List.set_cons_zero,List.set_cons_succ]
    refine held_take 27 rfl (by kernel_rfl) (fun _ _ _ h=>h) hHeld (by rfl) (v:=?_) ?_ ?_
    rotate_left 1
    ·(intro w hSw;(try dsimp only at hSw);go_simp)
     all_goals with_reducible rfl
    try simp only[Act.put,List.setIfInBounds_toArray,List.set_cons_zero,List.set_cons_succ]
    have hHeld1:(fun W:World=>(W.cell? ⟨gu,j+ys.length,none⟩=some (.int .u64 (xa:Int))∧W.cell? ⟨gu,j+(ys.length - 1),none⟩=some (.int .u64 (xb:Int))∧W.cell? ⟨gu,j+(ys.length - 2),none⟩=some (.int .u64 (xc:Int)))∧(W.cell? ⟨w6.heap.size,0,none⟩=some (.slice (some ⟨wr.heap.size,0,none⟩) mq mq)∧W.cell? ⟨w2.heap.size,0,none⟩=some (.slice (some ⟨gv,0,none⟩) ys.length cv)∧W.cell? ⟨w.heap.size,0,none⟩=some (.int .i64 (ys.length:Int))∧W.cell? ⟨gv,ys.length - 1,none⟩=some (.int .u64 (xt:Int))∧W.cell? ⟨gv,ys.length - 2,none⟩=some (.int .u64 (xn:Int))∧W.frozen? ⟨wr.heap.size,j,none⟩=false)) _:=⟨⟨ha,hb,hc⟩,hHeld⟩
    refine held_of_phase (S1:=fun W:World=>(W.cell? ⟨gu,j+ys.length,none⟩=some (.int .u64 (xa:Int))∧W.cell? ⟨gu,j+(ys.length - 1),none⟩=some (.int .u64 (xb:Int))∧W.cell? ⟨gu,j+(ys.length - 2),none⟩=some (.int .u64 (xc:Int)))∧(W.cell? ⟨w6.heap.size,0,none⟩=some (.slice (some ⟨wr.heap.size,0,none⟩) mq mq)∧W.cell? ⟨w2.heap.size,0,none⟩=some (.slice (some ⟨gv,0,none⟩) ys.length cv)∧W.cell? ⟨w.heap.size,0,none⟩=some (.int .i64 (ys.length:Int))∧W.cell? ⟨gv,ys.length - 1,none⟩=some (.int .u64 (xt:Int))∧W.cell? ⟨gv,ys.length - 2,none⟩=some (.int .u64 (xn:Int))∧W.frozen? ⟨wr.heap.size,j,none⟩=false)) (c:=28) (by exact fun _ h=>h.2) _ _ _ _ ?_
    refine phase_take 7 rfl (by kernel_rfl) (by kernel_rfl) (fun _ _ _ h=>h) hHeld1 (by rfl) (v:=?_) ?_ ?_
    rotate_left 1
    ·(intro w hSw;(try dsimp only at hSw);go_simp)
     all_goals with_reducible rfl
    try simp only[Act.put,List.setIfInBounds_toArray,List.set_cons_zero,List.set_cons_succ]
    refine phase_take 12 rfl (by kernel_rfl) (by kernel_rfl) (fun _ _ _ h=>h) hHeld1 (by rfl) (v:=?_) ?_ ?_
    rotate_left 1
    ·(intro w hSw;(try dsimp only at hSw);go_simp)
     all_goals with_reducible rfl
    try simp only[Act.put,List.setIfInBounds_toArray,List.set_cons_zero,List.set_cons_succ]
    refine phase_take 17 rfl (by kernel_rfl) (by kernel_rfl) (fun _ _ _ h=>h) hHeld1 (by rfl) (v:=?_) ?_ ?_
    rotate_left 1
    ·(intro w hSw;(try dsimp only at hSw);go_simp)
     all_goals with_reducible rfl
    try simp only[Act.put,List.setIfInBounds_toArray,List.set_cons_zero,List.set_cons_succ]
    refine phase_at rfl (by kernel_rfl) (fun K hK=>?_)
    go_simp
    go_at_call 77;refine(hgu _).mono ?_;rintro e w' ⟨⟨kk,rfl⟩,g,rfl,hg⟩
    go_wp2_with fail
    refine hK.out _ _ ?_ (fun hHeld=>?_)
    ·try dsimp only
     exact hHeld
    clear hK K
    try simp only[Act.put,List.setIfInBounds_toArray,List.set_cons_zero,List.set_cons_succ]
    refine held_at 29 rfl (by kernel_rfl) (fun K hK=>?_)
    go_simp
    go_at_call 76;refine(htk _ g ((Ext.refl W2).drewN _) hg).mono ?_;rintro e w' ⟨R',q',rfl,o1,oq,oB,og,oq64,oH⟩
    go_wp2_with fail
    refine hK.out _ _ ?_ (fun hHeld=>?_)
    ·try dsimp only
     exact⟨oB.2.2.2.2.1.cell,oB.2.2.1.cell,oB.2.1.cell,by rw[HXT.out];exact oB.2.2.2.2.2.2.cellAt (by have:=HVL.out;omega),by rw[HXN.out];exact oB.2.2.2.2.2.2.cellAt (by have:=HVL.out;omega),oq.frozenAt j⟩
    clear hK K
    try simp only[Act.put,List.setIfInBounds_toArray,List.set_cons_zero,List.set_cons_succ]
    have hcq4:=oq.cellAt (i:=j) (by have:=HQL.out;omega)
    refine held_take 30 rfl (by kernel_rfl) (fun _ _ _ h=>h) hHeld (by rfl) (v:=?_) ?_ ?_
    rotate_left 1
    ·(intro w hSw;(try dsimp only at hSw);go_simp)
     all_goals with_reducible rfl
    try simp only[Act.put,List.setIfInBounds_toArray,List.set_cons_zero,List.set_cons_succ]
    refine held_at 31 rfl (by kernel_rfl) (fun K hK=>?_)
    go_simp
    refine hK.out _ _ ?_ (fun hHeld=>?_)
    ·try dsimp only
     exact(fun h=>⟨h.2.2.2.2.1.cell,h.2.2.1.cell,h.2.1.cell,by rw[HXT.out];exact h.2.2.2.2.2.2.cellAt (by have:=HVL.out;omega),by rw[HXN.out];exact h.2.2.2.2.2.2.cellAt (by have:=HVL.out;omega),(oq.stored j q' rfl).frozenAt j⟩) (oB.kept (grown_set _ wr.heap.size j _) (by omega) (by omega) (by omega) (by omega) (by omega) (by omega))
    clear hK K
    try simp only[Act.put]
    refine wpAnyH_done (by kernel_rfl) ?_ _
    refine⟨?_,oB.kept (grown_set _ wr.heap.size j _) (by omega) (by omega) (by omega) (by omega) (by omega) (by omega),R',Q2.set j q',o1.kept (grown_set _ wr.heap.size j _) (.inr (by simp[Value.ownBlock];omega)),oq.stored j q' rfl,oH⟩
    exact((KeepsFrom.of_ext ((Ext.refl W2).drewN _) _).trans (KeepsFrom.grown og (fun k e=>by cases e;exact hcells))).trans (KeepsFrom.setCell1 _ _ _ _)
   case done=>
    rintro D W hD ⟨pB,R2,Q2,p5,p7,hH⟩ hK
    obtain⟨hE,p0,p1,p2,p3,-,pv⟩:=pB
    obtain⟨e1,e2,e3,e4,e5,-⟩:=hH.out
    rw[Nat.sub_self]at e3 e5
    have hQl:Lim B64 Q2:=by
     refine lim_of_getD fun i hi=>?_
     rw[e5 i (by omega) (by omega)]
     exact Nat.mod_lt _ B64_pos
    have hXV:X / V=N / M:=by rw[HX.out,HV.out];exact(dg_shift (N:=N) (y:=M) bt).1
    have hXr:X % V / 2^bt=N % M:=by rw[HX.out,HV.out];exact(dg_shift (N:=N) (y:=M) bt).2
    have hQe:ev B64 Q2=N / M:=by
     rw[← hXV]
     refine ev_limbs (fun i hi=>e5 i (by omega) (by omega)) ?_
     rw[hXV,e4,Nat.div_lt_iff_lt_mul hM]
     have h2:=HYN.out.ge (b:=B64) (by omega)
     rw[HYE.out]at h2
     have h1:=ev_lt hl1
     rw[HXE.out]at h1
     refine Nat.lt_of_lt_of_le h1 ?_
     rw[show xs.length=mq+(ys.length - 1) from by omega,Nat.pow_add]
     exact Nat.mul_le_mul_left _ h2
    have hRe:ev B64 R2=X % V:=by
     have h1:dmR X V 0 R2:=e3
     unfold dmR at h1
     rwa [Nat.pow_zero,Nat.mul_one]at h1
    have hcu:=p2.cell
    have hcq:=p3.cell
    have n5:=p5.nt e1
    have n7:=p7.nt hQl
    have hcqD:=hcq
    have HRE:=Lib.hid hRe
    have HQE:=Lib.hid hQe
    have HXR:=Lib.hid hXr
    have HRL:=Lib.hid e2
    clear e1 e2 e3 e4 e5 hXV hQe hRe hXr hH hcqD hI0
    have H1:Hid (shE (bt:Int)=0):=Lib.hid (if_neg (by omega))
    have H2:Hid (shrV (ev B64 R2) (bt:Int)=N % M):=Lib.hid (by rw[← HXR.out,← HRE.out];exact if_neg (by omega))
    have hsm:Sm (L+1) (ev B64 R2):=by
     have h1:=ev_lt n5.lim
     unfold Sm
     exact Nat.lt_of_lt_of_le h1 (Nat.pow_le_pow_right B64_pos (by have:=HRL.out;omega))
    have hfq:=p7.fr
    gi_wp2_with fail
    go_wp2_with fail
    refine(Tryz.divBare n5).mono ?_
    rintro e w' ⟨vr0,rfl,hr,rfl,-⟩
    go_wp2_with fail
    refine(Tryz.divShr hr hsm (by omega) (bt:Int)).mono ?_
    rintro e w8 ⟨vr,rfl,hrr,hE8,hf8⟩
    rw[H1.out]
    rw[H2.out]at hrr
    have hcq8:=(box_ext hE8 p3).cell
    have n78:=n7.ext hE8
    have hK8:=(Below.block hE8 D (Array.getElem?_eq_some_iff.1 hK).1).trans hK
    have hE9:=hE.trans hE8
    have hf9:=Fr.back hf8 hE
    clear hcq n7 hcu p0 p1 p2 p3 p5 p7 pv
    go_wp2_with fail
    refine(Tryz.divBare n78).mono ?_
    rintro e w' ⟨vq,rfl,hq,rfl,hob⟩
    rw[HQE.out]at hq
    go_wp2
    refine post_mark hK8 (results_tmp3 rfl _ _ _) ⟨_,_,by rw[HE.out];rfl,hq.putObj hK8 rfl,by rw[HR.out];exact hrr.putObj hK8 rfl,hE9.putObj (l:=D) (by simp at hD;omega) (.deferred none),fun k hk=>hfq k (hob.symm.trans hk),hf9⟩
end Go.Rt
namespace Go.Rt
open Go.RowKit Go.Shelf Go.Proofs
theorem Tryz.divDivMod {v1 v2:Value} {N M L:Nat} {w:World} (h1:Nw w v1 N) (h2:Nw w v2 M) (s1:Sm L N) (hL:L≤300000):
    Calls Tryz.prog 37 #[v1,v2] w fun e w'=>∃ vq vr,e=.returned (.tuple #[vq,vr,.int .i64 (dvE M)])∧Nw w' vq (N / M)∧Nw w' vr (dvR N M)∧Ext w w'∧Fr w vq∧Fr w vr:=by
  rcases Nat.eq_zero_or_pos M with rfl | hM
  · exact Tryz.divDivMod0 h2
  · rcases Nat.lt_or_ge N M with hlt | hle
    · exact Tryz.divDivModL h1 h2 s1 (by omega) hlt
    · rcases Nat.lt_or_ge M B64 with h | h
      · exact Tryz.divDivMod1 h1 h2 s1 (by omega) hle hM h
      · exact Tryz.divDivModN h1 h2 s1 hL hle h
set_option maxHeartbeats 1000000 in
theorem Tryz.divGcd {v1 v2:Value} {N M L:Nat} {w:World} (h1:Nw w v1 N) (h2:Nw w v2 M) (s1:Sm L N) (s2:Sm L M) (hL:L≤300000):
    Calls Tryz.prog 128 #[v1,v2] w fun e w'=>∃ v',e=.returned v'∧Nw w' v' (Nat.gcd N M)∧Ext w w':=by
  go_enter Tryz.func128,Tryz.ntmps128
  go_wp2
  go_loopw [0,1,5,6,7] (fun a b _ _ _ wr=>∃ A B,Nw wr a A∧Nw wr b B∧Sm L A∧Sm L B∧Hid (Nat.gcd A B=Nat.gcd N M)∧Ext w wr) (fun _ b _ _ _ wr=>numOf wr b)
  case atStart=>exact⟨N,M,h1,h2,s1,s2,Lib.hid rfl,Ext.refl _⟩
  case round=>
    obtain⟨A,B,hA,hB,sA,sB,hg,hE⟩:=hrel
    clear h1 h2
    have hB':=hB
    obtain⟨a,n,cap,rfl,hn0,-⟩:=hB.len
    rcases Nat.eq_zero_or_pos n with rfl | hpos
    · have hB0:B=0:=hn0.1 rfl
      have HR:Hid (A=Nat.gcd N M):=Lib.hid (by rw[← hg.out,hB0,Nat.gcd_zero_right])
      clear hn0 hB0 hB hB'
      go_wp2
      go_ret
      exact⟨_,rfl,by rw[← HR.out];exact hA,hE⟩
    · have hBp:0 < B:=by
        rcases Nat.eq_zero_or_pos B with h | h
        · have:=hn0.2 h;omega
        · exact h
      have HM:Hid (numOf wr (.slice a n cap)=B):=Lib.hid (numOf_eq hB)
      clear hn0
      go_wp2_with fail
      refine(Tryz.divDivMod hA hB sA hL).mono ?_
      rintro e w2 ⟨vq,vr,rfl,hq,hr,hE2,_,_⟩
      have hB2:=hB'.ext hE2
      rw[dvR_pos hBp]at hr
      have hrlt:A % B < B:=Nat.mod_lt _ hBp
      have HMR:Hid (numOf w2 vr=A % B):=Lib.hid (numOf_eq hr)
      go_wp2
      go_roundw
      case rel=>exact⟨B,A % B,hB2,hr,sB,sB.le (Nat.le_of_lt hrlt),Lib.hid (by rw[← gcd_step];exact hg.out),hE.trans hE2⟩
      case measure=>
        rw[HM.out]
        show numOf w2 vr < B
        rw[HMR.out];exact hrlt
theorem Nw.cells {w:World} {v:Value} {N L:Nat} (h:Nw w v N) (h1:N < B64^(L+1)) (h2:B64^L≤N):
    ∃ b o cap,v=.slice (some ⟨b,o,none⟩) (L+1) cap∧L+1≤cap∧cap≤9223372036854775807∧∀ i,i < L+1→w.cell? ⟨b,o+i,none⟩=some (.int .u64 ((N / B64^i % B64:Nat):Int)):=by
  obtain⟨xs,⟨a,b,o,cap,rfl,hs,hl⟩,hn,he⟩:=h
  have hb:1 < B64:=by rw[B64_eq];omega
  have l1:xs.length≤L+1:=(len_le_iff hb hl hn _).2 (he ▸ h1)
  have l2:¬ xs.length≤L:=fun hh=>by have:=(len_le_iff hb hl hn _).1 hh;omega
  have l3:xs.length=L+1:=by omega
  have hc:=hs.le
  have hm:=hs.max
  obtain rfl:=hs.addr (by omega)
  refine⟨b,o,cap,by rw[l3],by omega,hm,fun i hi=>?_⟩
  rw[hs.cell (by omega)]
  unfold lg
  rw[limb_div hl i,he]
theorem Nw.lit1 (w:World) (x:Nat) (e:TypeId) (hx:x < B64) (h0:0 < x):
    Nw (w.alloc (.cells #[.int .u64 (x:Int)] e)) (.slice (some ⟨w.heap.size,0,none⟩) 1 1) x:=
  ⟨[x],Nt.lit1 w x e hx,.inr (by show x≠0;omega),ev_single _ _⟩
end Go.Rt
namespace Go.Rt
def IsRt (r a k:Nat):Prop:=r^k≤a∧a < (r+1)^k
theorem pow_lt_iff {a b k:Nat} (hk:1≤k):a^k < b^k↔a < b:=by
 constructor
 ·intro h
  rcases Nat.lt_or_ge a b with h1 | h1
  ·exact h1
  ·have:=Nat.pow_le_pow_left h1 k;omega
 ·intro h;exact Nat.pow_lt_pow_left h (by omega)
theorem IsRt.unique {r s a k:Nat} (hk:1≤k) (h:IsRt r a k) (h':IsRt s a k):r=s:=by
 have h1:=(pow_lt_iff hk).1 (Nat.lt_of_le_of_lt h.1 h'.2)
 have h2:=(pow_lt_iff hk).1 (Nat.lt_of_le_of_lt h'.1 h.2)
 omega
theorem IsRt.exists (a:Nat) {k:Nat} (hk:1≤k):∃ r,IsRt r a k:=by
 induction a with
 | zero=>exact⟨0,by rw[Nat.zero_pow (by omega)];exact Nat.le_refl _,by rw[Nat.zero_add,Nat.one_pow];omega⟩
 | succ a ih=>
  obtain⟨r,h1,h2⟩:=ih
  rcases Nat.lt_or_ge (a+1) ((r+1)^k)with h | h
  ·exact⟨r,by omega,h⟩
  ·have h3:(r+1)^k < (r+1+1)^k:=(pow_lt_iff hk).2 (by omega)
   exact⟨r+1,h,by omega⟩
noncomputable def rt (a k:Nat):Nat:=Classical.epsilon fun r=>IsRt r a k
theorem rt_is (a:Nat) {k:Nat} (hk:1≤k):IsRt (rt a k) a k:=Classical.epsilon_spec (p:=fun r=>IsRt r a k) (IsRt.exists a hk)
theorem rt_eq {r a k:Nat} (hk:1≤k) (h:IsRt r a k):rt a k=r:=(rt_is a hk).unique hk h
theorem rt_zero {k:Nat} (hk:1≤k):rt 0 k=0:=rt_eq hk ⟨by rw[Nat.zero_pow (by omega)];exact Nat.le_refl _,by rw[Nat.zero_add,Nat.one_pow];omega⟩
theorem rt_le_iff {a k s:Nat} (hk:1≤k):rt a k≤s↔a < (s+1)^k:=by
 obtain⟨h1,h2⟩:=rt_is a hk
 constructor
 ·intro h
  exact Nat.lt_of_lt_of_le h2 (Nat.pow_le_pow_left (by omega) k)
 ·intro h
  have:=(pow_lt_iff hk).1 (Nat.lt_of_le_of_lt h1 h)
  omega
theorem le_rt_iff {a k s:Nat} (hk:1≤k):s≤rt a k↔s^k≤a:=by
 rcases Nat.eq_zero_or_pos s with rfl | hs
 ·rw[Nat.zero_pow (by omega)];simp
 ·have:=rt_le_iff (a:=a) (s:=s - 1) hk
  rw[show s - 1+1=s from by omega]at this
  omega
theorem rt_pos {a k:Nat} (hk:1≤k) (ha:0 < a):0 < rt a k:=(le_rt_iff hk).2 (by rw[Nat.one_pow];exact ha)
noncomputable def rtUp (a k:Nat):Nat:=if (rt a k)^k=a then rt a k else rt a k+1
theorem amgm (r x:Int) (hr:0≤r) (hx:0≤x):∀ m:Nat,(m+1:Int)*r*x^m≤r^(m+1)+m*x^(m+1)
 | 0=>by simp[Int.pow_succ]
 | m+1=>by
  have ih:=amgm r x hr hx m
  have h1:=Int.mul_le_mul_of_nonneg_left ih hr
  have h2:0≤(m+1:Int)*x^m*((x - r)*(x - r)):=by
   have hs:0≤(x - r)*(x - r):=by
    rcases Int.le_total x r with h | h
    ·have:=Int.mul_nonneg (show 0≤r - x by omega) (show 0≤r - x by omega)
     rwa [show (x - r)*(x - r)=(r - x)*(r - x) from by grind]
    ·exact Int.mul_nonneg (by omega) (by omega)
   exact Int.mul_nonneg (Int.mul_nonneg (by omega) (Int.pow_nonneg hx)) hs
  have e1:r^(m+1+1)=r*r^(m+1):=by rw[Int.pow_succ,Int.mul_comm]
  have e2:x^(m+1+1)=x^m*x*x:=by rw[Int.pow_succ,Int.pow_succ]
  have e3:x^(m+1)=x^m*x:=Int.pow_succ ..
  rw[e1,e2]
  rw[e3]at h1 ⊢
  generalize x^m=X at *
  generalize r^(m+1)=R at *
  push_cast
  grind
theorem newton_ge {a k x:Nat} (hk:1≤k) (hx:0 < x):rt a k≤((k - 1)*x+a / x^(k - 1)) / k:=by
 obtain⟨m,rfl⟩:∃ m,k=m+1:=⟨k - 1,by omega⟩
 rw[Nat.add_sub_cancel]
 obtain⟨h1,-⟩:=rt_is a hk
 generalize rt a (m+1)=r at *
 rw[Nat.le_div_iff_mul_le (by omega)]
 have hP:0 < x^m:=Nat.pow_pos hx
 rcases Nat.lt_or_ge (r*(m+1)) (m*x)with hlt | hge
 ·exact Nat.le_trans (Nat.le_of_lt hlt) (Nat.le_add_right _ _)
 ·have h2:r*(m+1) - m*x≤a / x^m:=by
   rw[Nat.le_div_iff_mul_le hP]
   refine Nat.le_trans ?_ h1
   have h3:=amgm r x (by omega) (by omega) m
   have e:((r*(m+1) - m*x:Nat):Int)=(r:Int)*(m+1) - m*x:=by rw[Int.natCast_sub hge];simp
   have h4:(((r*(m+1) - m*x)*x^m:Nat):Int)≤((r^(m+1):Nat):Int):=by
    rw[Int.natCast_mul,e,Int.natCast_pow,Int.natCast_pow]
    rw[Int.pow_succ x m]at h3
    generalize (x:Int)^m=X at *
    generalize (r:Int)^(m+1)=R at *
    grind
   exact Int.ofNat_le.1 h4
  generalize a / x^m=i at *
  omega
theorem newton_lt {a k x:Nat} (hk:1≤k) (hx:rt a k < x):((k - 1)*x+a / x^(k - 1)) / k < x:=by
 obtain⟨m,rfl⟩:∃ m,k=m+1:=⟨k - 1,by omega⟩
 rw[Nat.add_sub_cancel]
 obtain⟨-,h2⟩:=rt_is a hk
 have hP:0 < x^m:=Nat.pow_pos (by omega)
 have h3:a < x^(m+1):=Nat.lt_of_lt_of_le h2 (Nat.pow_le_pow_left (by omega) _)
 have h4:a / x^m < x:=by
  rw[Nat.div_lt_iff_lt_mul hP,Nat.mul_comm,← Nat.pow_succ];exact h3
 rw[Nat.div_lt_iff_lt_mul (by omega),Nat.mul_add,Nat.mul_one,Nat.mul_comm x m]
 omega
theorem newton_start {a k:Nat} (hk:1≤k):rt a k≤2^(bl a / k+1):=by
 rw[rt_le_iff hk]
 have h1:=bl_lt a
 have h2:(2^(bl a / k+1))^k≤(2^(bl a / k+1)+1)^k:=Nat.pow_le_pow_left (by omega) k
 have h3:2^bl a≤(2^(bl a / k+1))^k:=by
  rw[← Nat.pow_mul]
  refine Nat.pow_le_pow_right (by omega) ?_
  have:=Nat.lt_mul_div_succ (bl a) (show 0 < k by omega)
  rw[Nat.mul_comm]at this
  omega
 omega
theorem bitroot_step {a k i o:Nat} (h1:o^k≤a) (h2:a < (o+2^(i+1))^k):
  ((o+2^i)^k≤a→(o+2^i)^k≤a∧a < (o+2^i+2^i)^k)∧(¬ (o+2^i)^k≤a→o^k≤a∧a < (o+2^i)^k):=by
 refine⟨fun h=>⟨h,?_⟩,fun h=>⟨h1,by omega⟩⟩
 rw[Nat.pow_succ]at h2
 rwa [show o+2^i+2^i=o+2^i*2 from by omega]
theorem bitroot_start {a k:Nat} (hk:1≤k):0^k≤a∧a < (0+2^(bl a / k+1))^k:=by
 refine⟨by rw[Nat.zero_pow (by omega)];omega,?_⟩
 rw[Nat.zero_add,← Nat.pow_mul]
 refine Nat.lt_of_lt_of_le (bl_lt a) (Nat.pow_le_pow_right (by omega) ?_)
 have:=Nat.lt_mul_div_succ (bl a) (show 0 < k by omega)
 rw[Nat.mul_comm]at this
 omega
end Go.Rt
