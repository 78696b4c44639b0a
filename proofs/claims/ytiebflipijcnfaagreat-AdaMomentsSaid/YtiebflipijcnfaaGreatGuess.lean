/-
 div.guess: the digit by three limbs over two.
-/
import Derived.Test.YtiebflipijcnfaaGreatDiv64
import Derived.Test.YtiebflipijcnfaaGreatMul64
import Derived.WalkMore
namespace Go.Rt
open Go.RowKit Go.Proofs
def guessR (a b c t n q:Nat):Prop:=q < B64∧q*(t*B64+n)≤(a*B64+b)*B64+c∧(q+1=B64∨(a*B64+b)*B64+c < (q+1)*(t*B64+n))
def guessI (a b c t n q r o:Nat):Prop:=q < B64∧r < B64∧o≤1∧q*t+(r+B64*o)=a*B64+b∧(q+1=B64∨(a*B64+b)*B64+c < (q+1)*(t*B64+n))
theorem guess_done {a b c t n q r o:Nat} (h:guessI a b c t n q r o) (hx:(o=0∧q*n≤r*B64+c)∨(o=1∧n < B64)):guessR a b c t n q:=by
 obtain⟨h1,h2,h3,h4,h5⟩:=h
 refine⟨h1,?_,h5⟩
 rw[← h4,Nat.mul_add,Nat.add_mul,← Nat.mul_assoc,Nat.add_mul]
 rcases hx with ⟨rfl,hx⟩ | ⟨rfl,hx⟩
 ·rw[Nat.mul_zero,Nat.zero_mul];omega
 ·have e1:q*n≤B64*B64:=Nat.mul_le_mul (Nat.le_of_lt h1) (Nat.le_of_lt hx)
  rw[Nat.mul_one];omega
theorem guess_next {a b c t n q r s d:Nat} (h:guessI a b c t n q r 0) (hx:¬ q*n≤r*B64+c) (hs:s=(r+t+0) % B64) (hd:d=(r+t+0) / B64) (ht:t < B64):guessI a b c t n (q - 1) s d:=by
 obtain⟨h1,h2,h3,h4,h5⟩:=h
 have hq0:0 < q:=by
  rcases Nat.eq_zero_or_pos q with h0 | h0
  ·exfalso;rw[h0]at hx;simp at hx
  ·exact h0
 obtain⟨p,rfl⟩:∃ p,q=p+1:=⟨q - 1,by omega⟩
 have hsd:s+B64*d=r+t:=by rw[hs,hd,Nat.add_zero,Nat.add_comm];exact Nat.div_add_mod _ _
 refine⟨by omega,by rw[hs];exact Nat.mod_lt _ B64_pos,?_,?_,.inr ?_⟩
 ·rw[hd]
  have:(r+t+0) / B64 < 2:=by rw[Nat.div_lt_iff_lt_mul B64_pos];omega
  omega
 ·rw[Nat.add_sub_cancel,hsd,← h4,Nat.add_mul];omega
 ·simp only[Nat.mul_zero,Nat.add_zero]at h4 hx ⊢
  rw[Nat.add_sub_cancel,← h4,Nat.mul_add (p+1),← Nat.mul_assoc,Nat.add_mul ((p+1)*t) r]
  omega
theorem pair_le {h l r c:Nat} (hl:l < 18446744073709551616) (hc:c < B64) (hle:h*18446744073709551616+l≤r*18446744073709551616+c) (hn:¬ h < r):h=r∧l≤c:=by
 rw[B64_eq]at hc
 omega
set_option maxRecDepth 100000 in
set_option maxHeartbeats 2000000 in
theorem Tryz.guess {a b c t n:Nat} (hat:a≤t) (hb:b < B64) (hc:c < B64) (ht:t < B64) (hn:n < B64) (htop:0 < t) (w:World):
  Calls Tryz.prog 77 #[.int .u64 (a:Int),.int .u64 (b:Int),.int .u64 (c:Int),.int .u64 (t:Int),.int .u64 (n:Int)] w fun e w'=>
   (∃ k,w'=w.drewN k)∧∃ q:Nat,e=.returned (.int .u64 (q:Int))∧guessR a b c t n q:=by
 by_cases hlt:a < t
 ·have hnI:¬ ((t:Int)≤(a:Int)):=by omega
  obtain⟨q0,hq0⟩:∃ q,q=(a*B64+b) / t:=⟨_,rfl⟩
  obtain⟨r0,hr0⟩:∃ r,r=(a*B64+b) % t:=⟨_,rfl⟩
  have hdv:∀ W,Calls Tryz.prog 101 #[.int .u64 (a:Int),.int .u64 (b:Int),.int .u64 (t:Int)] W fun e w'=>(∃ k,w'=W.drewN k)∧e=.returned (.tuple #[.int .u64 (q0:Int),.int .u64 (r0:Int)]):=fun W=>by rw[hq0,hr0];exact Tryz.div64 hlt hb ht W
  have hI0:guessI a b c t n q0 r0 0:=by
   have e1:q0*t+r0=a*B64+b:=by rw[hq0,hr0];exact Nat.div_add_mod' _ _
   have e2:r0 < t:=by rw[hr0];exact Nat.mod_lt _ htop
   refine⟨?_,by omega,by omega,by omega,.inr ?_⟩
   ·rw[hq0,Nat.div_lt_iff_lt_mul htop]
    have:(a+1)*B64≤t*B64:=Nat.mul_le_mul_right _ hlt
    rw[Nat.add_mul,Nat.one_mul]at this
    rw[Nat.mul_comm B64]
    omega
   ·have e3:a*B64+b+1≤(q0+1)*t:=by rw[Nat.add_mul];omega
    have e4:=Nat.mul_le_mul_right B64 e3
    rw[Nat.add_mul _ 1,Nat.one_mul,Nat.mul_assoc]at e4
    rw[Nat.mul_add (q0+1)]
    omega
  have HI:=Lib.hid hI0
  clear hq0 hr0 hI0
  go_enter Tryz.func77,Tryz.ntmps77
  go_wp2
  go_step3
  go_wp2_with (first | (go_at_call 101;refine(hdv _).mono ?_;rintro e w' ⟨⟨kk,rfl⟩,rfl⟩))
  go_step3
  go_wp2
  go_loop [11,12,13] (fun q r o=>∃ (qq rr oo:Nat),q=.int .u64 (qq:Int)∧r=.int .u64 (rr:Int)∧o=.int .u64 (oo:Int)∧Hid (guessI a b c t n qq rr oo)) (fun q _ _=>(intOf q).toNat)
  case atStart=>exact⟨q0,r0,0,rfl,rfl,rfl,HI⟩
  case round=>
   obtain⟨qq,rr,oo,rfl,rfl,rfl,hI⟩:=hrel
   obtain⟨i1,i2,i3,i4,i5⟩:=hI.out
   by_cases ho:oo=0
   ·subst ho
    obtain⟨h,hh⟩:∃ h,h=qq*n / B64:=⟨_,rfl⟩
    obtain⟨l,hl⟩:∃ l,l=qq*n % B64:=⟨_,rfl⟩
    have hmul:∀ W,Calls Tryz.prog 104 #[.int .u64 (qq:Int),.int .u64 (n:Int)] W fun e w'=>W=w'∧e=.returned (.tuple #[.int .u64 (h:Int),.int .u64 (l:Int)]):=fun W=>Tryz.mul64 i1 hn hh hl W
    have hhl:qq*n=h*B64+l:=by rw[hh,hl];exact(Nat.div_add_mod' _ _).symm
    have hlb:l < B64:=by rw[hl];exact Nat.mod_lt _ B64_pos
    by_cases hle:qq*n≤rr*B64+c
    ·have HF:=Lib.hid (guess_done hI.out (.inl ⟨rfl,hle⟩))
     rw[hhl]at hle
     by_cases hhr:h < rr
     ·have hhrI:(h:Int) < (rr:Int):=by omega
      clear hhl hle hh hl hlb hI i1 i2 i3 i4 i5
      go_wp2_with (first | (go_at_call 104;refine(hmul _).mono ?_;rintro e w' ⟨rfl,rfl⟩))
      (try rw[Exit.noGoto_ret]);go_ret
      exact⟨⟨_,rfl⟩,_,rfl,HF.out⟩
     ·obtain⟨e1,e2⟩:h=rr∧l≤c:=pair_le (by rw[B64_eq]at *;exact hlb) hc (by rw[B64_eq]at *;exact hle) hhr
      subst e1
      have hlc:(l:Int)≤(c:Int):=by omega
      clear hhl hle hh hl hlb hI i1 i2 i3 i4 i5
      go_wp2_with (first | (go_at_call 104;refine(hmul _).mono ?_;rintro e w' ⟨rfl,rfl⟩))
      (try rw[Exit.noGoto_ret]);go_ret
      exact⟨⟨_,rfl⟩,_,rfl,HF.out⟩
    ·have hq0:0 < qq:=by
      rcases Nat.eq_zero_or_pos qq with h0 | h0
      ·exfalso;rw[h0]at hle;simp at hle
      ·exact h0
     obtain⟨s,hs⟩:∃ s,s=(rr+t+0) % B64:=⟨_,rfl⟩
     obtain⟨d,hd⟩:∃ d,d=(rr+t+0) / B64:=⟨_,rfl⟩
     have hadd:∀ W,(callFunc 105 #[.int .u64 (rr:Int),.int .u64 (t:Int),.int .u64 0]).run Tryz.prog W=.ok (.value (.tuple #[.int .u64 (s:Int),.int .u64 (d:Int)])) W:=fun W=>Tryz.add64 (c:=0) (by omega) hs hd W
     have HN:=Lib.hid (guess_next hI.out hle hs hd ht)
     have f1:IntKind.u64.wrap ((qq:Int) - 1)=((qq - 1:Nat):Int):=by rw[IntKind.wrap_u64];rw[B64_eq]at i1;omega
     have hnr:¬ ((h:Int) < (rr:Int)):=by
      intro hx
      have hx':h+1≤rr:=by omega
      have:=Nat.mul_le_mul_right B64 hx'
      rw[Nat.add_mul,Nat.one_mul]at this
      omega
     have hor:¬ ((h:Int)=(rr:Int))∨(h=rr∧¬ ((l:Int)≤(c:Int))):=by
      by_cases hx:h=rr
      ·subst hx
       exact .inr ⟨rfl,by omega⟩
      ·exact .inl (by omega)
     have hms:qq - 1 < qq:=by omega
     obtain⟨qa,hqa⟩:∃ qa,qa=qq - 1:=⟨_,rfl⟩
     rw[← hqa]at HN f1 hms
     clear hhl hle hh hl hlb hI i1 i2 i3 i4 i5 hs hd hqa
     rcases hor with hx | ⟨rfl,hx⟩
     ·go_wp2_with (first | (go_at_call 104;refine(hmul _).mono ?_;rintro e w' ⟨rfl,rfl⟩))
      go_round
      case measure=>simp[intOf];omega
      case rel=>exact⟨_,_,_,rfl,rfl,rfl,HN⟩
     ·go_wp2_with (first | (go_at_call 104;refine(hmul _).mono ?_;rintro e w' ⟨rfl,rfl⟩))
      go_round
      case measure=>simp[intOf];omega
      case rel=>exact⟨_,_,_,rfl,rfl,rfl,HN⟩
   ·have HF:=Lib.hid (guess_done hI.out (.inr ⟨by omega,hn⟩))
    have hoI:¬ ((oo:Int)=0):=by omega
    clear hI i1 i2 i3 i4 i5
    go_wp2
    (try rw[Exit.noGoto_ret]);go_ret
    exact⟨⟨_,rfl⟩,_,rfl,HF.out⟩
 ·obtain rfl:a=t:=by omega
  have hnI:(a:Int)≤(a:Int):=by omega
  obtain⟨q0,hq0⟩:∃ q:Nat,q=18446744073709551615:=⟨_,rfl⟩
  obtain⟨r0,hr0⟩:∃ r,r=(b+a+0) % B64:=⟨_,rfl⟩
  obtain⟨o0,ho0⟩:∃ o,o=(b+a+0) / B64:=⟨_,rfl⟩
  have hadd0:∀ W,(callFunc 105 #[.int .u64 (b:Int),.int .u64 (a:Int),.int .u64 0]).run Tryz.prog W=.ok (.value (.tuple #[.int .u64 (r0:Int),.int .u64 (o0:Int)])) W:=fun W=>Tryz.add64 (c:=0) (by omega) hr0 ho0 W
  have hI0:guessI a b c a n q0 r0 o0:=by
   have hsd:r0+B64*o0=b+a:=by rw[hr0,ho0,Nat.add_zero,Nat.add_comm];exact Nat.div_add_mod _ _
   have ho1:o0 < 2:=by rw[ho0,Nat.div_lt_iff_lt_mul B64_pos];omega
   refine⟨by rw[hq0,B64_eq];omega,by rw[hr0];exact Nat.mod_lt _ B64_pos,by omega,?_,.inl (by rw[hq0,B64_eq])⟩
   rw[hsd,hq0,B64_eq]
   omega
  have HI:=Lib.hid hI0
  have hq0I:(18446744073709551615:Int)=(q0:Int):=by rw[hq0];rfl
  have HQ:=Lib.hid hq0I
  clear hq0 hr0 ho0 hI0 hq0I
  go_enter Tryz.func77,Tryz.ntmps77
  go_wp2
  go_step3
  go_wp2
  go_step3
  go_wp2
  go_loop [11,12,13] (fun q r o=>∃ (qq rr oo:Nat),q=.int .u64 (qq:Int)∧r=.int .u64 (rr:Int)∧o=.int .u64 (oo:Int)∧Hid (guessI a b c a n qq rr oo)) (fun q _ _=>(intOf q).toNat)
  case atStart=>exact⟨q0,r0,o0,by rw[← HQ.out],rfl,rfl,HI⟩
  case round=>
   obtain⟨qq,rr,oo,rfl,rfl,rfl,hI⟩:=hrel
   obtain⟨i1,i2,i3,i4,i5⟩:=hI.out
   by_cases ho:oo=0
   ·subst ho
    obtain⟨h,hh⟩:∃ h,h=qq*n / B64:=⟨_,rfl⟩
    obtain⟨l,hl⟩:∃ l,l=qq*n % B64:=⟨_,rfl⟩
    have hmul:∀ W,Calls Tryz.prog 104 #[.int .u64 (qq:Int),.int .u64 (n:Int)] W fun e w'=>W=w'∧e=.returned (.tuple #[.int .u64 (h:Int),.int .u64 (l:Int)]):=fun W=>Tryz.mul64 i1 hn hh hl W
    have hhl:qq*n=h*B64+l:=by rw[hh,hl];exact(Nat.div_add_mod' _ _).symm
    have hlb:l < B64:=by rw[hl];exact Nat.mod_lt _ B64_pos
    by_cases hle:qq*n≤rr*B64+c
    ·have HF:=Lib.hid (guess_done hI.out (.inl ⟨rfl,hle⟩))
     rw[hhl]at hle
     by_cases hhr:h < rr
     ·have hhrI:(h:Int) < (rr:Int):=by omega
      clear hhl hle hh hl hlb hI i1 i2 i3 i4 i5
      go_wp2_with (first | (go_at_call 104;refine(hmul _).mono ?_;rintro e w' ⟨rfl,rfl⟩))
      (try rw[Exit.noGoto_ret]);go_ret
      exact⟨⟨0,rfl⟩,_,rfl,HF.out⟩
     ·obtain⟨e1,e2⟩:h=rr∧l≤c:=pair_le (by rw[B64_eq]at *;exact hlb) hc (by rw[B64_eq]at *;exact hle) hhr
      subst e1
      have hlc:(l:Int)≤(c:Int):=by omega
      clear hhl hle hh hl hlb hI i1 i2 i3 i4 i5
      go_wp2_with (first | (go_at_call 104;refine(hmul _).mono ?_;rintro e w' ⟨rfl,rfl⟩))
      (try rw[Exit.noGoto_ret]);go_ret
      exact⟨⟨0,rfl⟩,_,rfl,HF.out⟩
    ·have hq0:0 < qq:=by
      rcases Nat.eq_zero_or_pos qq with h0 | h0
      ·exfalso;rw[h0]at hle;simp at hle
      ·exact h0
     obtain⟨s,hs⟩:∃ s,s=(rr+a+0) % B64:=⟨_,rfl⟩
     obtain⟨d,hd⟩:∃ d,d=(rr+a+0) / B64:=⟨_,rfl⟩
     have hadd:∀ W,(callFunc 105 #[.int .u64 (rr:Int),.int .u64 (a:Int),.int .u64 0]).run Tryz.prog W=.ok (.value (.tuple #[.int .u64 (s:Int),.int .u64 (d:Int)])) W:=fun W=>Tryz.add64 (c:=0) (by omega) hs hd W
     have HN:=Lib.hid (guess_next hI.out hle hs hd ht)
     have f1:IntKind.u64.wrap ((qq:Int) - 1)=((qq - 1:Nat):Int):=by rw[IntKind.wrap_u64];rw[B64_eq]at i1;omega
     have hnr:¬ ((h:Int) < (rr:Int)):=by
      intro hx
      have hx':h+1≤rr:=by omega
      have:=Nat.mul_le_mul_right B64 hx'
      rw[Nat.add_mul,Nat.one_mul]at this
      omega
     have hor:¬ ((h:Int)=(rr:Int))∨(h=rr∧¬ ((l:Int)≤(c:Int))):=by
      by_cases hx:h=rr
      ·subst hx
       exact .inr ⟨rfl,by omega⟩
      ·exact .inl (by omega)
     have hms:qq - 1 < qq:=by omega
     obtain⟨qa,hqa⟩:∃ qa,qa=qq - 1:=⟨_,rfl⟩
     rw[← hqa]at HN f1 hms
     clear hhl hle hh hl hlb hI i1 i2 i3 i4 i5 hs hd hqa
     rcases hor with hx | ⟨rfl,hx⟩
     ·go_wp2_with (first | (go_at_call 104;refine(hmul _).mono ?_;rintro e w' ⟨rfl,rfl⟩))
      go_round
      case measure=>simp[intOf];omega
      case rel=>exact⟨_,_,_,rfl,rfl,rfl,HN⟩
     ·go_wp2_with (first | (go_at_call 104;refine(hmul _).mono ?_;rintro e w' ⟨rfl,rfl⟩))
      go_round
      case measure=>simp[intOf];omega
      case rel=>exact⟨_,_,_,rfl,rfl,rfl,HN⟩
   ·have HF:=Lib.hid (guess_done hI.out (.inr ⟨by omega,hn⟩))
    have hoI:¬ ((oo:Int)=0):=by omega
    clear hI i1 i2 i3 i4 i5
    go_wp2
    (try rw[Exit.noGoto_ret]);go_ret
    exact⟨⟨0,rfl⟩,_,rfl,HF.out⟩
end Go.Rt
