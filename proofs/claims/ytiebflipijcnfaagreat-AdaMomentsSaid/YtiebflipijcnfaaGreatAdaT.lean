/-
  Adafactor in numbers: a step of rows, or why there is none; what it hangs on.
-/
import Derived.Test.YtiebflipijcnfaaGreatJB
import Derived.Test.YtiebflipijcnfaaGreatGU
namespace Go.Rt
structure AdaP where
  lr:Int
  ep:Int
  d:Int
def scaleO (a n d:Int):Option Int:=okZ (ratioV (a*n) d.toNat)
def squareO (K:Nat) (ep g:Int):Option Int:=(mulO K g g).bind fun x=>addO x ep
def blendO (K:Nat) (sh old q:Int):Option Int:=(mulO K (oneZ K - sh) old).bind fun x=>(mulO K sh q).bind fun y=>addO x y
def meanZ (l:List Int):Int:=meanV (l.map fun x=>[x]) 0
def facB (n cl:Nat):Bool:=decide (2≤cl) && decide (2≤n / cl)
def allB (n:Nat) (f:Nat→Option Int):Bool:=(List.range n).all fun i=>(f i).isSome
def valF (f:Nat→Option Int) (i:Nat):Int:=(f i).getD 0
theorem allB_iff {n:Nat} {f:Nat→Option Int}:allB n f=true↔∀ i,i < n→f i≠none:=by
  unfold allB
  rw[List.all_eq_true]
  constructor
  · intro h i hi e
    have:=h i (List.mem_range.2 hi)
    rw[e]at this
    cases this
  · intro h i hi
    exact Option.isSome_iff_ne_none.2 (h i (List.mem_range.1 hi))
theorem allB_no {n i:Nat} {f:Nat→Option Int} (hi:i < n) (h:f i=none):allB n f=false:=
  Bool.eq_false_iff.2 fun e=>allB_iff.1 e i hi h
theorem valF_some {f:Nat→Option Int} {i:Nat} {x:Int} (h:f i=some x):valF f i=x:=by unfold valF;rw[h];rfl
theorem some_valF {f:Nat→Option Int} {i:Nat} (h:f i≠none):f i=some (valF f i):=by
  unfold valF
  cases hf:f i with
  | none=>exact absurd hf h
  | some x=>rfl
section
variable (K:Nat) (A:AdaP) (sh:Int) (cl:Nat) (lw lm lv lg:List Int)
def sqF (i:Nat):Option Int:=squareO K A.ep (atL lg i)
def qL:List Int:=outL lg.length (valF (sqF K A lg))
def rowL (q:List Int) (r:Nat):List Int:=outL cl fun j=>atL q (r*cl+j)
def colL (q:List Int) (k:Nat):List Int:=outL (q.length / cl) fun j=>atL q (k+j*cl)
def pF (q:List Int) (i:Nat):Option Int:=blendO K sh (atL lv i) (atL q i)
def mF (q:List Int) (r:Nat):Option Int:=blendO K sh (atL lm r) (meanZ (rowL cl q r))
def vF (q:List Int) (k:Nat):Option Int:=blendO K sh (atL lv k) (meanZ (colL cl q k))
def mL (q:List Int):List Int:=if facB q.length cl=true then outL (q.length / cl) (valF (mF K sh cl lm q)) else []
def vL (q:List Int):List Int:=if facB q.length cl=true then outL cl (valF (vF K sh cl lv q)) else outL q.length (valF (pF K sh lv q))
def sF (m v:List Int) (i:Nat):Option Int:=scaleO (atL m (i / cl)) (atL v (i % cl)) (max (meanZ m) 1)
def sL (q:List Int):List Int:=if facB q.length cl=true then outL q.length (valF (sF cl (mL K sh cl lm q) (vL K sh cl lv q))) else outL q.length (valF (pF K sh lv q))
def momB (q:List Int):Bool:=if facB q.length cl=true then allB (q.length / cl) (mF K sh cl lm q) && allB cl (vF K sh cl lv q) && allB q.length (sF cl (mL K sh cl lm q) (vL K sh cl lv q)) else allB q.length (pF K sh lv q)
noncomputable def xF (s:List Int) (i:Nat):Option Int:=divO K (atL lg i) (max (rootW K (atL s i)) 1)
def yF (x:List Int) (i:Nat):Option Int:=mulO K (atL x i) (atL x i)
noncomputable def xL (s:List Int):List Int:=outL lg.length (valF (xF K lg s))
def yL (x:List Int):List Int:=outL x.length (valF (yF K x))
noncomputable def topH (x:List Int):Int:=rootW K (meanZ (yL K x))
noncomputable def uF (x:List Int) (i:Nat):Option Int:=if A.d < topH K x then scaleO (atL x i) A.d (topH K x) else some (atL x i)
noncomputable def uL (s:List Int):List Int:=outL lg.length (valF (uF K A (xL K lg s)))
noncomputable def upB (s:List Int):Bool:=allB lg.length (xF K lg s) && allB lg.length (yF K (xL K lg s)) && allB lg.length (uF K A (xL K lg s))
def wF (u:List Int) (i:Nat):Option Int:=(mulO K A.lr (atL u i)).bind fun t=>subO (atL lw i) t
def wL (u:List Int):List Int:=outL u.length (valF (wF K A lw u))
noncomputable def adaB:Bool:=allB lg.length (sqF K A lg) && momB K sh cl lm lv (qL K A lg) && upB K A lg (sL K sh cl lm lv (qL K A lg)) && allB lg.length (wF K A lw (uL K A lg (sL K sh cl lm lv (qL K A lg))))
noncomputable def adaW:List Int:=wL K A lw (uL K A lg (sL K sh cl lm lv (qL K A lg)))
def adaMo:List Int:=mL K sh cl lm (qL K A lg)
def adaVo:List Int:=vL K sh cl lv (qL K A lg)
end
theorem qL_len (K:Nat) (A:AdaP) (lg:List Int):(qL K A lg).length=lg.length:=outL_len _ _
def rightAda (A:AdaP) (f:Int):Bool:=decide (0≤f∧f≤40∧0≤A.lr∧0 < A.ep∧oneZ f.toNat≤A.d)
theorem rightAda_iff {A:AdaP} {f:Int}:rightAda A f=true↔(0≤f∧f≤40∧0≤A.lr∧0 < A.ep∧oneZ f.toNat≤A.d):=by unfold rightAda;exact decide_eq_true_iff
def shareB (t f:Int):Bool:=decide (1≤t∧t≤1000000∧0≤f∧f≤40)
def shapeB (n cl m v g:Nat):Bool:=g==n && n % cl==0 && (if facB n cl=true then m==n / cl && v==cl else m==0 && v==n)
noncomputable def shareZ (t f:Int):Int:=((shareN t.toNat f.toNat:Nat):Int)
noncomputable def adaE (A:AdaP) (f t c:Int) (lw lm lv lg:List Int):Int:=
  if (rightAda A f && shareB t f && decide (1≤c) && !negB lm && !negB lv)=false then 1
  else if shapeB lw.length c.toNat lm.length lv.length lg.length=false then 5
  else if adaB f.toNat A (shareZ t f) c.toNat lw lm lv lg=false then 2 else 0
noncomputable def stepW (A:AdaP) (f t c:Int) (lw lm lv lg:List Int):List Int:=if adaE A f t c lw lm lv lg=0 then adaW f.toNat A (shareZ t f) c.toNat lw lm lv lg else []
noncomputable def stepM (A:AdaP) (f t c:Int) (lw lm lv lg:List Int):List Int:=if adaE A f t c lw lm lv lg=0 then adaMo f.toNat A (shareZ t f) c.toNat lm lg else []
noncomputable def stepV (A:AdaP) (f t c:Int) (lw lm lv lg:List Int):List Int:=if adaE A f t c lw lm lv lg=0 then adaVo f.toNat A (shareZ t f) c.toNat lv lg else []
structure AdaOk (A:AdaP) (f t c:Int) (lw lm lv lg:List Int):Prop where
  right:rightAda A f=true
  share:shareB t f=true
  col:1≤c
  nm:negB lm=false
  nv:negB lv=false
  shape:shapeB lw.length c.toNat lm.length lv.length lg.length=true
  all:adaB f.toNat A (shareZ t f) c.toNat lw lm lv lg=true
theorem adaE_zero {A:AdaP} {f t c:Int} {lw lm lv lg:List Int}:adaE A f t c lw lm lv lg=0↔AdaOk A f t c lw lm lv lg:=by
  unfold adaE
  constructor
  · intro h
    split at h
    · cases h
    · rename_i h1
      split at h
      · cases h
      · rename_i h2
        split at h
        · cases h
        · rename_i h3
          simp only[Bool.not_eq_false,Bool.and_eq_true,Bool.not_eq_true',decide_eq_true_eq]at h1 h2 h3
          exact⟨h1.1.1.1.1,h1.1.1.1.2,h1.1.1.2,h1.1.2,h1.2,h2,h3⟩
  · intro h
    rw[if_neg (by simp[h.right,h.share,h.nm,h.nv,h.col]),if_neg (by simp[h.shape]),if_neg (by simp[h.all])]
theorem adaE_one {A:AdaP} {f t c:Int} {lw lm lv lg:List Int}:adaE A f t c lw lm lv lg=1↔(rightAda A f && shareB t f && decide (1≤c) && !negB lm && !negB lv)=false:=by
  unfold adaE
  split
  · simp[*]
  · split
    · simp[*]
    · split <;> simp[*]
theorem meanZ_i64 (l:List Int):I64 (meanZ l):=fitV_in64 _
theorem valF_i64 {f:Nat→Option Int} (h:∀ i x,f i=some x→I64 x) (i:Nat):I64 (valF f i):=by
  unfold valF
  cases hf:f i with
  | none=>exact⟨by decide,by decide⟩
  | some x=>exact h i x hf
theorem squareO_i64 {K:Nat} {ep g x:Int} (h:squareO K ep g=some x):I64 x:=by
  unfold squareO at h
  simp only[Option.bind_eq_some_iff]at h
  obtain⟨_,_,h⟩:=h
  exact okZ_fits h
theorem atL_i64' {l:List Int} (h:∀ x ∈ l,I64 x) (i:Nat):I64 (atL l i):=atL_i64 h i
theorem qL_i64 (K:Nat) (A:AdaP) (lg:List Int):∀ x ∈ qL K A lg,I64 x:=outL_i64 (valF_i64 fun _ _ h=>squareO_i64 h)
section
variable {K:Nat} {cl:Nat} {q lm lv lm' lv':List Int} (hq:∀ x ∈ q,I64 x)
include hq
end
end Go.Rt
