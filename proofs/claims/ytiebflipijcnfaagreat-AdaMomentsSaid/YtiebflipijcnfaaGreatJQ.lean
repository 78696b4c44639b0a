/-
  Plain laws on a step's moments: how far they are from what is exact.
  Adafactor in numbers: how far new moments are from what is exact.
-/
import Derived.Test.YtiebflipijcnfaaGreatJF
import Derived.Test.YtiebflipijcnfaaGreatHC
namespace Go.Rt
open Go Go.RowKit Go.Proofs
theorem P2_ne0 (K:Nat):P2 K≠0:=fun e=>by
  have h:=P2_pos K
  rw[e]at h
  exact absurd h (by decide)
def numR (K:Nat) (n:Int):Rat:=(n:Rat) / P2 K
theorem numR_mul (K:Nat) (n:Int):numR K n*P2 K=(n:Rat):=Rat.div_mul_cancel (P2_ne0 K)
theorem oneZ_P2 (K:Nat):((oneZ K:Int):Rat)=P2 K:=rfl
theorem numR_less (K:Nat) (be:Int):numR K (oneZ K - be)=((1:Int):Rat) - numR K be:=by
  have h1:=numR_mul K (oneZ K - be)
  have h2:=numR_mul K be
  rw[Rat.intCast_sub,oneZ_P2]at h1
  have hp:=P2_pos K
  rw[show ((1:Int):Rat)=1 from rfl]
  generalize numR K (oneZ K - be)=x at *
  generalize numR K be=y at *
  have h3:(x - (1 - y))*P2 K=0:=by grind
  rcases Rat.mul_eq_zero.1 h3 with h | h
  · grind
  · exact absurd h (P2_ne0 K)
theorem numR_pos {K:Nat} {n:Int} (h:0≤n):0≤numR K n:=by
  refine Rat.le_of_mul_le_mul_right (c:=P2 K) ?_ (P2_pos K)
  rw[numR_mul,Rat.zero_mul]
  exact Rat.intCast_le_intCast.2 h
theorem numR_le {K:Nat} {n:Int} (h:n≤oneZ K):numR K n≤1:=by
  refine Rat.le_of_mul_le_mul_right (c:=P2 K) ?_ (P2_pos K)
  rw[numR_mul,Rat.one_mul,← oneZ_P2]
  exact Rat.intCast_le_intCast.2 h
theorem mul_near {K:Nat} {a b y:Int} (h:mulO K a b=some y):-1≤2*(numR K a*numR K b*P2 K - y)∧2*(numR K a*numR K b*P2 K - y)≤1:=by
  obtain⟨-,h⟩:=okZ_some h
  have hn:=near_is (((a*b:Int):Rat) / ((2^K:Nat):Rat))
  have hy:nearR (((a*b:Int):Rat) / ((2^K:Nat):Rat))=y:=h
  rw[hy]at hn
  have e:((a*b:Int):Rat) / ((2^K:Nat):Rat)=numR K a*numR K b*P2 K:=by
    have h1:=numR_mul K a
    have h2:=numR_mul K b
    have h3:((a*b:Int):Rat) / P2 K*P2 K=((a*b:Int):Rat):=Rat.div_mul_cancel (P2_ne0 K)
    rw[Rat.intCast_mul]at h3
    rw[show ((2^K:Nat):Rat)=P2 K from rfl,Rat.intCast_mul]
    generalize (a:Rat)*(b:Rat) / P2 K=z at *
    generalize numR K a=x at *
    generalize numR K b=y at *
    have h4:(z - x*y*P2 K)*P2 K=0:=by grind
    rcases Rat.mul_eq_zero.1 h4 with h | h
    · grind
    · exact absurd h (P2_ne0 K)
  rw[e]at hn
  exact⟨hn.1,hn.2.1⟩
theorem far_near {K:Nat} {n hv:Int} {e:Rat} (h1:-(hv:Rat)≤2*(e*P2 K - n)) (h2:2*(e*P2 K - n)≤(hv:Rat)):
    Rat.abs (numR K n - e)+Rat.abs (numR K n - e)≤(hv:Rat)*numR K 1:=by
  have k1:=numR_mul K n
  have k2:=numR_mul K 1
  rw[show ((1:Int):Rat)=1 from rfl]at k2
  have key:∀ a:Rat,2*(a*P2 K)≤hv→a+a≤(hv:Rat)*numR K 1:=fun a ha=>by
    refine Rat.le_of_mul_le_mul_right (c:=P2 K) ?_ (P2_pos K)
    have e1:(hv:Rat)*numR K 1*P2 K=hv:=by rw[Rat.mul_assoc,k2,Rat.mul_one]
    rw[e1]
    grind
  unfold Rat.abs
  split
  · exact key _ (by grind)
  · exact key _ (by grind)
end Go.Rt
namespace Go.Rt
def sqS (K:Nat) (ep:Int) (lg:List Int) (s st:Nat):Nat→Rat
  | 0=>((0:Int):Rat)
  | m+1=>sqS K ep lg s st m+(numR K (atL lg (s+m*st))*numR K (atL lg (s+m*st))+numR K ep)
def sqN (K:Nat) (ep:Int) (lg:List Int) (s st:Nat):Nat→Int
  | 0=>0
  | m+1=>sqN K ep lg s st m+(atL lg (s+m*st)*atL lg (s+m*st)+ep*oneZ K)
def sqM (K:Nat) (ep:Int) (lg:List Int) (s st m:Nat):Rat:=sqS K ep lg s st m*mkRat 1 m
def mixR (K:Nat) (sh old:Int) (q:Rat):Rat:=(((1:Int):Rat) - numR K sh)*numR K old+numR K sh*q
def FarOk (K:Nat) (n:Int) (e:Rat) (hv:Int):Prop:=Rat.abs (numR K n - e)+Rat.abs (numR K n - e)≤(hv:Rat)*numR K 1
def sumI (q:Nat→Int):Nat→Int
  | 0=>0
  | m+1=>sumI q m+q m
theorem sumI_out (q:Nat→Int) (m:Nat):colS ((outL m q).map fun x=>[x]) 0=sumI q m:=by
  induction m with
  | zero=>rfl
  | succ m ih=>
    have e:outL (m+1) q=outL m q++[q m]:=by
      unfold outL
      rw[List.range_succ,List.map_append]
      rfl
    unfold sumI
    rw[← ih,e]
    unfold colS
    rw[List.map_append,List.map_append,List.sum_append]
    congr 1
    simp[atL]
section
variable {K:Nat} {ep:Int} {lg:List Int} {s st:Nat}
theorem sqS_mul (m:Nat):sqS K ep lg s st m*(P2 K*P2 K)=((sqN K ep lg s st m:Int):Rat):=by
  induction m with
  | zero=>unfold sqS sqN;rw[show ((0:Int):Rat)=0 from rfl,Rat.zero_mul]
  | succ m ih=>
    unfold sqS sqN
    have h1:=numR_mul K (atL lg (s+m*st))
    have h2:=numR_mul K ep
    have h3:=oneZ_P2 K
    rw[Rat.intCast_add,← ih,Rat.intCast_add,Rat.intCast_mul,Rat.intCast_mul,← h1,← h2,h3]
    generalize numR K (atL lg (s+m*st))=a
    generalize numR K ep=b
    generalize P2 K=p
    generalize sqS K ep lg s st m=c
    grind
theorem sqN_le (hep:I64 ep) (h64:∀ i,I64 (atL lg i)) (hK:K≤40) (m:Nat):(sqN K ep lg s st m).natAbs≤m*85070601871439417691678863831567695872:=by
  induction m with
  | zero=>simp[sqN]
  | succ m ih=>
    unfold sqN
    have h1:=h64 (s+m*st)
    generalize atL lg (s+m*st)=g at h1 ⊢
    have k1:(g*g).natAbs≤9223372036854775808*9223372036854775808:=by
      rw[Int.natAbs_mul]
      exact Nat.mul_le_mul (by unfold I64 at h1;omega) (by unfold I64 at h1;omega)
    have k2:(ep*oneZ K).natAbs≤9223372036854775808*1099511627776:=by
      rw[Int.natAbs_mul]
      have:=one_max hK
      have:=one_pos K
      exact Nat.mul_le_mul (by unfold I64 at hep;omega) (by omega)
    generalize g*g=x at k1 ⊢
    generalize ep*oneZ K=y at k2 ⊢
    omega
theorem sqS_sm (hep:I64 ep) (h64:∀ i,I64 (atL lg i)) (hK:K≤40) {m:Nat} (hm:m≤40):SmR 5 (sqS K ep lg s st m):=by
  have hN:Sm 3 (sqN K ep lg s st m).natAbs:=by
    have h:=sqN_le (s:=s) (st:=st) hep h64 hK m
    have h2:m*85070601871439417691678863831567695872≤40*85070601871439417691678863831567695872:=Nat.mul_le_mul_right _ hm
    unfold Sm
    rw[B64_eq]
    omega
  have h:=SmR.back hN (K+K)
  have e:sqS K ep lg s st m=mkRat (sqN K ep lg s st m) (2^(K+K)):=by
    have hp:P2 K*P2 K=((2^(K+K):Nat):Rat):=by
      unfold P2
      rw[Nat.pow_add,Rat.natCast_mul]
    have h1:=sqS_mul (K:=K) (ep:=ep) (lg:=lg) (s:=s) (st:=st) m
    rw[hp]at h1
    have hne:((2^(K+K):Nat):Rat)≠0:=fun e0=>by
      have:=P2_ne0 (K+K)
      unfold P2 at this
      exact this e0
    rw[Rat.mkRat_eq_div,← h1]
    exact(Rat.mul_div_cancel hne).symm
  rw[e]
  exact h.mono (by omega)
theorem sqS_near {q:Nat→Int} {m:Nat} (h:∀ i,i < m→squareO K ep (atL lg (s+i*st))=some (q i)):
    -(m:Rat)≤2*(sqS K ep lg s st m*P2 K - ((sumI q m:Int):Rat))∧2*(sqS K ep lg s st m*P2 K - ((sumI q m:Int):Rat))≤(m:Rat):=by
  induction m with
  | zero=>
    unfold sqS sumI
    rw[show ((0:Int):Rat)=0 from rfl,show (((0:Nat)):Rat)=0 from rfl]
    constructor <;> grind
  | succ m ih=>
    have k:=ih fun i hi=>h i (by omega)
    have hq:=h m (by omega)
    unfold squareO at hq
    rw[Option.bind_eq_some_iff]at hq
    obtain⟨x,hx,hq⟩:=hq
    obtain⟨-,hq⟩:=okZ_some hq
    have k1:=mul_near hx
    have k2:=numR_mul K ep
    unfold sqS sumI
    rw[← hq,Rat.intCast_add,Rat.intCast_add,← k2,show ((m+1:Nat):Rat)=(m:Rat)+1 from Rat.natCast_add m 1]
    generalize numR K (atL lg (s+m*st))*numR K (atL lg (s+m*st))=a at *
    generalize numR K ep=b at *
    generalize P2 K=p at *
    generalize sqS K ep lg s st m=c at *
    generalize ((sumI q m:Int):Rat)=d at *
    generalize (m:Rat)=e at *
    constructor <;> grind
theorem natR_pos' {m:Nat} (h:0 < m):(0:Rat) < (m:Rat):=by exact_mod_cast h
theorem mk_one {m:Nat} (h:0 < m):mkRat 1 m*(m:Rat)=1:=by
  have hm:=natR_pos' h
  have hne:(m:Rat)≠0:=fun e=>by rw[e]at hm;exact absurd hm (by decide)
  rw[Rat.mkRat_eq_div]
  exact Rat.div_mul_cancel hne
theorem sqM_near {q:Nat→Int} {m:Nat} (hm:0 < m) (h64:∀ i,I64 (q i)) (h:∀ i,i < m→squareO K ep (atL lg (s+i*st))=some (q i)):
    -2≤2*(sqM K ep lg s st m*P2 K - ((meanZ (outL m q):Int):Rat))∧2*(sqM K ep lg s st m*P2 K - ((meanZ (outL m q):Int):Rat))≤2:=by
  have k:=sqS_near h
  have k1:=mk_one hm
  have k2:=natR_pos' hm
  have hl:((outL m q).map fun x=>[x]).length=m:=by rw[List.length_map,outL_len]
  have hf:∀ x ∈ ((outL m q).map fun x=>[x]).flatten,I64 x:=by
    intro x hx
    rw[List.mem_flatten]at hx
    obtain⟨l,hl,hx⟩:=hx
    rw[List.mem_map]at hl
    obtain⟨y,hy,rfl⟩:=hl
    rw[List.mem_singleton]at hx
    subst hx
    unfold outL at hy
    rw[List.mem_map]at hy
    obtain⟨i,-,rfl⟩:=hy
    exact h64 i
  have k3:=(mean_is hf (by rw[hl];exact hm) 0).2.2
  rw[hl,sumI_out]at k3
  have k4:-(m:Int)≤2*(sumI q m - meanZ (outL m q)*(m:Int))∧2*(sumI q m - meanZ (outL m q)*(m:Int))≤(m:Int):=by
    unfold meanZ
    omega
  generalize meanZ (outL m q)=z at *
  have k7:((2*(sumI q m - z*(m:Int)):Int):Rat)=2*(((sumI q m:Int):Rat) - (z:Rat)*(m:Rat)):=by rw[Rat.intCast_mul,Rat.intCast_sub,Rat.intCast_mul,Rat.intCast_natCast];rfl
  have k5:-(m:Rat)≤2*(((sumI q m:Int):Rat) - (z:Rat)*(m:Rat)):=by
    have h:=Rat.intCast_le_intCast.2 k4.1
    rw[k7,Rat.intCast_neg,Rat.intCast_natCast]at h
    exact h
  have k6:2*(((sumI q m:Int):Rat) - (z:Rat)*(m:Rat))≤(m:Rat):=by
    have h:=Rat.intCast_le_intCast.2 k4.2
    rw[k7,Rat.intCast_natCast]at h
    exact h
  unfold sqM
  generalize ((sumI q m:Int):Rat)=S at *
  generalize sqS K ep lg s st m=c at *
  generalize P2 K=p at *
  generalize mkRat 1 m=u at *
  generalize (z:Rat)=Z at *
  generalize (m:Rat)=M at *
  constructor
  · refine Rat.le_of_mul_le_mul_right (c:=M) ?_ k2
    have e:2*(c*u*p - Z)*M=2*(c*p - S)+2*(S - Z*M):=by grind
    rw[e]
    grind
  · refine Rat.le_of_mul_le_mul_right (c:=M) ?_ k2
    have e:2*(c*u*p - Z)*M=2*(c*p - S)+2*(S - Z*M):=by grind
    rw[e]
    grind
theorem sqM_one {q:Int} (h:squareO K ep (atL lg s)=some q):-1≤2*(sqM K ep lg s 1 1*P2 K - (q:Rat))∧2*(sqM K ep lg s 1 1*P2 K - (q:Rat))≤1:=by
  have k:=sqS_near (K:=K) (ep:=ep) (lg:=lg) (s:=s) (st:=1) (q:=fun _=>q) (m:=1) (fun i hi=>by
    obtain rfl:i=0:=by omega
    rw[Nat.zero_mul,Nat.add_zero]
    exact h)
  have k1:=mk_one (m:=1) (by omega)
  rw[show ((1:Nat):Rat)=1 from rfl,Rat.mul_one]at k1
  unfold sqM
  rw[k1,Rat.mul_one]
  have e:sumI (fun _=>q) 1=q:=by simp[sumI]
  rw[e]at k
  exact k
end
theorem blend_near {K:Nat} {sh old q z:Int} {Q:Rat} {b:Rat} (h0:0≤sh) (h1:sh≤oneZ K) (h:blendO K sh old q=some z) (hb:0≤b) (k1:-b≤2*(Q*P2 K - (q:Rat))) (k2:2*(Q*P2 K - (q:Rat))≤b):
    -(2+b)≤2*(mixR K sh old Q*P2 K - (z:Rat))∧2*(mixR K sh old Q*P2 K - (z:Rat))≤2+b:=by
  unfold blendO at h
  simp only[Option.bind_eq_some_iff]at h
  obtain⟨x,hx,y,hy,h⟩:=h
  obtain⟨-,rfl⟩:=okZ_some h
  have m1:=mul_near hx
  have m2:=mul_near hy
  have m3:=numR_mul K q
  have m4:=numR_pos (K:=K) h0
  have m5:=numR_le (K:=K) h1
  rw[numR_less]at m1
  unfold mixR
  rw[show ((1:Int):Rat)=1 from rfl]at m1 ⊢
  rw[Rat.intCast_add]
  generalize numR K sh=X at *
  generalize numR K old=V at *
  generalize numR K q=R at *
  generalize P2 K=p at *
  generalize (x:Rat)=x' at *
  generalize (y:Rat)=y' at *
  generalize (q:Rat)=q' at *
  have e1:0≤X*(b - 2*(Q*p - q')):=Rat.mul_nonneg m4 (by grind)
  have e2:0≤X*(b+2*(Q*p - q')):=Rat.mul_nonneg m4 (by grind)
  have e5:X*b≤b:=by
    have:=Rat.mul_nonneg (show 0≤1 - X by grind) hb
    grind
  have e3:((1 - X)*V+X*Q)*p - (x'+y')=((1 - X)*V*p - x')+(X*R*p - y')+X*(Q*p - q'):=by
    rw[← m3]
    grind
  rw[e3]
  have e6:X*(b - 2*(Q*p - q'))=X*b - 2*(X*(Q*p - q')):=by grind
  have e7:X*(b+2*(Q*p - q'))=X*b+2*(X*(Q*p - q')):=by grind
  rw[e6]at e1
  rw[e7]at e2
  generalize X*(Q*p - q')=t at *
  generalize (1 - X)*V*p - x'=a at *
  generalize X*R*p - y'=c at *
  generalize X*b=d at *
  constructor <;> grind
theorem far4 {K:Nat} {n:Int} {e:Rat} (h:-(2+2:Rat)≤2*(e*P2 K - n)∧2*(e*P2 K - n)≤2+2):FarOk K n e 4:=
  far_near (by rw[show ((4:Int):Rat)=4 from rfl];grind) (by rw[show ((4:Int):Rat)=4 from rfl];grind)
theorem far3 {K:Nat} {n:Int} {e:Rat} (h:-(2+1:Rat)≤2*(e*P2 K - n)∧2*(e*P2 K - n)≤2+1):FarOk K n e 3:=
  far_near (by rw[show ((3:Int):Rat)=3 from rfl];grind) (by rw[show ((3:Int):Rat)=3 from rfl];grind)
section
variable {K:Nat} {A:AdaP} {sh:Int} {cl:Nat} {lm lv lg:List Int}
theorem sq_at (h:allB lg.length (sqF K A lg)=true) {i:Nat} (hi:i < lg.length):squareO K A.ep (atL lg i)=some (atL (qL K A lg) i):=by
  have h1:=some_valF (allB_iff.1 h i hi)
  unfold qL
  rw[outL_at hi]
  exact h1
theorem row_far (h:allB lg.length (sqF K A lg)=true) (h0:0≤sh) (h1:sh≤oneZ K) (hcl:0 < cl) {r:Nat} (hr:r*cl+cl≤lg.length) {z:Int} (hz:mF K sh cl lm (qL K A lg) r=some z):FarOk K z (mixR K sh (atL lm r) (sqM K A.ep lg (r*cl) 1 cl)) 4:=by
  have k:=sqM_near (K:=K) (ep:=A.ep) (lg:=lg) (s:=r*cl) (st:=1) (q:=fun j=>atL (qL K A lg) (r*cl+j)) (m:=cl) hcl (fun i=>atL_i64' (qL_i64 K A lg) _) (fun i hi=>by rw[Nat.mul_one];exact sq_at h (by omega))
  exact far4 (blend_near h0 h1 hz (by decide) k.1 k.2)
theorem col_far (h:allB lg.length (sqF K A lg)=true) (h0:0≤sh) (h1:sh≤oneZ K) (hR:0 < lg.length / cl) (hd:lg.length % cl=0) {k:Nat} (hk:k < cl) {z:Int} (hz:vF K sh cl lv (qL K A lg) k=some z):FarOk K z (mixR K sh (atL lv k) (sqM K A.ep lg k cl (lg.length / cl))) 4:=by
  have hn:lg.length=lg.length / cl*cl:=by
    have:=Nat.div_add_mod lg.length cl
    rw[hd,Nat.add_zero,Nat.mul_comm]at this
    exact this.symm
  have e:colL cl (qL K A lg) k=outL (lg.length / cl) fun j=>atL (qL K A lg) (k+j*cl):=by
    unfold colL
    rw[qL_len]
  have m:=sqM_near (K:=K) (ep:=A.ep) (lg:=lg) (s:=k) (st:=cl) (q:=fun j=>atL (qL K A lg) (k+j*cl)) (m:=lg.length / cl) hR (fun i=>atL_i64' (qL_i64 K A lg) _) (fun i hi=>sq_at h (by
    have h2:i*cl+cl≤lg.length / cl*cl:=by rw[← Nat.succ_mul];exact Nat.mul_le_mul_right _ hi
    omega))
  unfold vF at hz
  rw[e]at hz
  exact far4 (blend_near h0 h1 hz (by decide) m.1 m.2)
theorem place_far (h:allB lg.length (sqF K A lg)=true) (h0:0≤sh) (h1:sh≤oneZ K) {i:Nat} (hi:i < lg.length) {z:Int} (hz:pF K sh lv (qL K A lg) i=some z):FarOk K z (mixR K sh (atL lv i) (sqM K A.ep lg i 1 1)) 3:=by
  have k:=sqM_one (sq_at h hi)
  exact far3 (blend_near h0 h1 hz (by decide) k.1 k.2)
end
theorem ada_moments {A:AdaP} {f t c:Int} {lw lm lv lg:List Int} {K cl n:Nat} (hK:f=(K:Int)) (hc:c=(cl:Int)) (hn:lw.length=n) (h:adaE A f t c lw lm lv lg=0):
    lg.length=n∧1≤cl∧n % cl=0∧(stepM A f t c lw lm lv lg).length=lm.length∧(stepV A f t c lw lm lv lg).length=lv.length∧(stepW A f t c lw lm lv lg).length=n ∧
    (if facB n cl=true then lm.length=n / cl∧lv.length=cl else lm.length=0∧lv.length=n) ∧
    (facB n cl=true→(∀ r,r < lm.length→0≤atL (stepM A f t c lw lm lv lg) r∧FarOk K (atL (stepM A f t c lw lm lv lg) r) (mixR K (shareZ t f) (atL lm r) (sqM K A.ep lg (r*cl) 1 cl)) 4) ∧
      ∀ k,k < cl→0≤atL (stepV A f t c lw lm lv lg) k∧FarOk K (atL (stepV A f t c lw lm lv lg) k) (mixR K (shareZ t f) (atL lv k) (sqM K A.ep lg k cl (n / cl))) 4) ∧
    (facB n cl=false→∀ k,k < n→0≤atL (stepV A f t c lw lm lv lg) k∧FarOk K (atL (stepV A f t c lw lm lv lg) k) (mixR K (shareZ t f) (atL lv k) (sqM K A.ep lg k 1 1)) 3):=by
  have hok:=adaE_zero.1 h
  have hr:=rightAda_iff.1 hok.right
  have hshape:=hok.shape
  subst hc
  have hcl:=hok.col
  rw[Int.toNat_natCast]at hshape
  have hs2:lg.length=n∧n % cl=0∧(if facB n cl=true then lm.length=n / cl∧lv.length=cl else lm.length=0∧lv.length=n):=by
    unfold shapeB at hshape
    rw[hn]at hshape
    cases hf:facB n cl <;> rw[hf]at hshape <;> simpa [and_assoc] using hshape
  obtain⟨hg,hd,hsh⟩:=hs2
  have hsr:0≤shareZ t f∧shareZ t f≤oneZ K:=by
    have hb:=hok.share
    unfold shareB at hb
    rw[decide_eq_true_eq]at hb
    have h3:=share_le (t:=t.toNat) (by omega) K
    unfold shareZ oneZ
    have:f.toNat=K:=by omega
    rw[this]
    omega
  have hKK:f.toNat=K:=by omega
  have hall:=hok.all
  rw[hKK,Int.toNat_natCast]at hall
  unfold adaB at hall
  rw[Bool.and_eq_true,Bool.and_eq_true,Bool.and_eq_true]at hall
  have hsq:=hall.1.1.1
  have hmom:=hall.1.1.2
  have eM:stepM A f t (cl:Int) lw lm lv lg=mL K (shareZ t f) cl lm (qL K A lg):=by
    unfold stepM
    rw[if_pos h,hKK,Int.toNat_natCast]
    rfl
  have eV:stepV A f t (cl:Int) lw lm lv lg=vL K (shareZ t f) cl lv (qL K A lg):=by
    unfold stepV
    rw[if_pos h,hKK,Int.toNat_natCast]
    rfl
  have eW:(stepW A f t (cl:Int) lw lm lv lg).length=n:=by
    unfold stepW
    rw[if_pos h]
    unfold adaW wL
    rw[outL_len]
    unfold uL
    rw[outL_len,hg]
  have hq:∀ i,0≤atL (qL K A lg) i:=fun i=>atL_pos (fun i=>sq_posV hr.2.2.2.1 i) i
  have hql:=qL_len K A lg
  rw[eM,eV]
  refine⟨hg,by omega,hd,?_,?_,eW,hsh,fun hf=>?_,fun hf=>?_⟩
  · unfold mL
    rw[hql,hg]
    cases hf:facB n cl
    · rw[hf]at hsh
      simp only[Bool.false_eq_true,if_false]at hsh ⊢
      rw[hsh.1]
      rfl
    · rw[hf]at hsh
      simp only[if_true]at hsh ⊢
      rw[outL_len,hsh.1]
  · unfold vL
    rw[hql,hg]
    cases hf:facB n cl
    · rw[hf]at hsh
      simp only[Bool.false_eq_true,if_false]at hsh ⊢
      rw[outL_len,hsh.2]
    · rw[hf]at hsh
      simp only[if_true]at hsh ⊢
      rw[outL_len,hsh.2]
  · have hf2:=hf
    unfold facB at hf2
    rw[Bool.and_eq_true,decide_eq_true_eq,decide_eq_true_eq]at hf2
    rw[hf,if_pos rfl]at hsh
    unfold momB at hmom
    rw[hql,hg,hf,if_pos rfl,Bool.and_eq_true,Bool.and_eq_true]at hmom
    have hnn:n=n / cl*cl:=by
      have:=Nat.div_add_mod n cl
      rw[hd,Nat.add_zero,Nat.mul_comm]at this
      exact this.symm
    refine⟨fun r hr2=>?_,fun k hk=>?_⟩
    · rw[hsh.1]at hr2
      have hz:=some_valF (allB_iff.1 hmom.1.1 r hr2)
      have e:atL (mL K (shareZ t f) cl lm (qL K A lg)) r=valF (mF K (shareZ t f) cl lm (qL K A lg)) r:=by
        unfold mL
        rw[hql,hg,hf,if_pos rfl,outL_at hr2]
      rw[e]
      refine⟨?_,row_far hsq hsr.1 hsr.2 (by omega) ?_ hz⟩
      · exact blend_pos hsr.1 hsr.2 (negB_pos hok.nm _) (meanZ_pos (outL_pos fun j=>hq _))
      · rw[hg]
        have h2:r*cl+cl≤n / cl*cl:=by rw[← Nat.succ_mul];exact Nat.mul_le_mul_right _ hr2
        omega
    · have hz:=some_valF (allB_iff.1 hmom.1.2 k hk)
      have e:atL (vL K (shareZ t f) cl lv (qL K A lg)) k=valF (vF K (shareZ t f) cl lv (qL K A lg)) k:=by
        unfold vL
        rw[hql,hg,hf,if_pos rfl,outL_at hk]
      rw[e]
      refine⟨?_,?_⟩
      · exact blend_pos hsr.1 hsr.2 (negB_pos hok.nv _) (meanZ_pos (outL_pos fun j=>hq _))
      · have:=col_far hsq hsr.1 hsr.2 (by rw[hg];omega) (by rw[hg];exact hd) hk hz
        rw[hg]at this
        exact this
  · rw[hf]at hsh
    simp only[Bool.false_eq_true,if_false]at hsh
    unfold momB at hmom
    rw[hql,hg,hf]at hmom
    simp only[Bool.false_eq_true,if_false]at hmom
    intro k hk
    have hz:=some_valF (allB_iff.1 hmom k hk)
    have e:atL (vL K (shareZ t f) cl lv (qL K A lg)) k=valF (pF K (shareZ t f) lv (qL K A lg)) k:=by
      unfold vL
      rw[hql,hg,hf]
      simp only[Bool.false_eq_true,if_false]
      rw[outL_at hk]
    rw[e]
    exact⟨blend_pos hsr.1 hsr.2 (negB_pos hok.nv _) (hq _),place_far hsq hsr.1 hsr.2 (by omega) hz⟩
end Go.Rt
