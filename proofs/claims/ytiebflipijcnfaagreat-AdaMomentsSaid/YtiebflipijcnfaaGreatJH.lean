/-
  Adam in numbers: sums, products, quotients that may not be there; a place's step; what is right.
  Adam: its reckoning by the program: what is there, and what panics.
  Adam: a place's step by the program.
  Adam: a step of rows by the program: made place by place; refused as a whole, if one place is.
-/
import Derived.Test.YtiebflipijcnfaaGreatGX
import Derived.Test.YtiebflipijcnfaaGreatIrow
import Derived.Recover
import Derived.Laws.Pointers
namespace Go.Rt
structure AdamP where
  lr:Int
  b1:Int
  b2:Int
  eps:Int
  wd:Int
  ap:Bool
def okZ (z:Int):Option Int:=if fits z=true then some z else none
theorem okZ_some {z y:Int} (h:okZ z=some y):fits z=true∧z=y:=by
  unfold okZ at h
  split at h
  · exact⟨‹_›,by simpa using h⟩
  · cases h
theorem okZ_fits {z y:Int} (h:okZ z=some y):-9223372036854775808≤y∧y < 9223372036854775808:=by
  obtain⟨h1,rfl⟩:=okZ_some h
  exact fits_iff.1 h1
theorem okZ_in {z:Int} (h1:-9223372036854775808≤z) (h2:z < 9223372036854775808):okZ z=some z:=if_pos (fits_iff.2 ⟨h1,h2⟩)
def mulZ (K:Nat) (a b:Int):Int:=ratioV (a*b) (2^K)
def divZ (K:Nat) (a b:Int):Int:=nearR (((a*((2^K:Nat):Int):Int):Rat) / (b:Rat))
def mulO (K:Nat) (a b:Int):Option Int:=okZ (mulZ K a b)
def divO (K:Nat) (a b:Int):Option Int:=okZ (divZ K a b)
def addO (a b:Int):Option Int:=okZ (a+b)
def subO (a b:Int):Option Int:=okZ (a - b)
noncomputable def rootW (K:Nat) (a:Int):Int:=((rt (a.toNat*2^K) 2:Nat):Int)
def oneZ (K:Nat):Int:=((2^K:Nat):Int)
theorem one_pos (K:Nat):0 < oneZ K:=by unfold oneZ;have:=Nat.pow_pos (n:=K) (show 0 < 2 by omega);omega
theorem one_max {K:Nat} (h:K≤40):oneZ K≤1099511627776:=by
  unfold oneZ
  have:2^K≤1099511627776:=Nat.le_trans (Nat.pow_le_pow_right (by omega) h) (by decide)
  omega
def mixO (K:Nat) (be a b:Int):Option Int:=(mulO K be a).bind fun x=>(mulO K (oneZ K - be) b).bind fun y=>addO x y
def gradO (K:Nat) (A:AdamP) (w g:Int):Option Int:=if A.ap=true then some g else (mulO K A.wd w).bind fun t=>addO g t
def lessO (K:Nat) (A:AdamP) (w n:Int):Option Int:=if A.ap=true then (mulO K A.lr A.wd).bind fun q=>(mulO K q w).bind fun r=>subO n r else some n
noncomputable def placeO (K:Nat) (A:AdamP) (p0 p1 w m v g:Int):Option (Int × Int × Int):=
  (gradO K A w g).bind fun d=>
  (mixO K A.b1 m d).bind fun m'=>
  (mulO K d d).bind fun q=>
  (mixO K A.b2 v q).bind fun v'=>
  (divO K m' (oneZ K - p0)).bind fun x=>
  (divO K v' (oneZ K - p1)).bind fun y=>
  (addO (rootW K y) A.eps).bind fun s=>
  (divO K x s).bind fun u=>
  (mulO K A.lr u).bind fun t=>
  (subO w t).bind fun n=>
  (lessO K A w n).bind fun n'=>
  some (n',m',v')
theorem mulZ_nonneg {K:Nat} {a b:Int} (ha:0≤a) (hb:0≤b):0≤mulZ K a b:=ratio_nonneg (Nat.pow_pos (by omega)) (Int.mul_nonneg ha hb)
end Go.Rt
namespace Go.Rt
open Go Go.RowKit Go.Proofs
theorem Good.may (c:Value) (p:Prop):Good (fun v _=>v=c∧p):=⟨fun _ _ _ _ h=>h,fun _ _ _ _ _ h=>h⟩
def heldO (n e:Int):Option Int:=if e=0 then some n else none
theorem heldO_fit (z:Int):heldO (fitV z) (fitE z)=okZ z:=by
 unfold heldO okZ
 cases h:fits z
 ·rw[fitE_out h];rfl
 ·rw[fitE_in h,fitV_in h];rfl
def HeldP (t:TypeId) (e:Ending) (o:Option Int):Prop:=
 match o with
 | some z=>e=.returned (.int .i64 z)
 | none=>∃ c:Int,c≠0∧e=.panicked [{ v:=.iface t (.int .i64 c),recovered:=false }]
theorem HeldP.no {t:TypeId} {c:Int} {o:Option Int} (h:o=none) (hc:c≠0):HeldP t (.panicked [{ v:=.iface t (.int .i64 c),recovered:=false }]) o:=by subst h;exact⟨c,hc,rfl⟩
theorem HeldP.yes {t:TypeId} {z:Int} {o:Option Int} (h:o=some z):HeldP t (.returned (.int .i64 z)) o:=by subst h;rfl
theorem HeldP.out {t:TypeId} {e:Ending} {z:Int} {o:Option Int} (q:HeldP t e o) (h:o=some z):e=.returned (.int .i64 z):=by subst h;exact q
theorem HeldP.out0 {t:TypeId} {e:Ending} {o:Option Int} (q:HeldP t e o) (h:o=none):∃ c:Int,c≠0∧e=.panicked [{ v:=.iface t (.int .i64 c),recovered:=false }]:=by subst h;exact q
theorem okZ_i64 {z y:Int} (h:okZ z=some y):I64 y:=okZ_fits h
end Go.Rt
namespace Go.Rt
open Go Go.RowKit Go.Proofs
theorem rootW_i64 {K:Nat} (hK:K≤40) {a:Int} (h:I64 a):I64 (rootW K a):=by
 unfold rootW
 have h1:a.toNat*2^K≤9223372036854775808*1099511627776:=Nat.mul_le_mul (by have:=h.2;omega) (Nat.le_trans (Nat.pow_le_pow_right (by omega) hK) (by decide))
 have h2:=(rt_is (a.toNat*2^K) (k:=2) (by omega)).1
 have h3:rt (a.toNat*2^K) 2 < 9223372036854775808:=by
  apply Classical.byContradiction
  intro hc
  have h4:9223372036854775808^2≤rt (a.toNat*2^K) 2^2:=Nat.pow_le_pow_left (by omega) 2
  have:=Nat.le_trans h4 (Nat.le_trans h2 h1)
  omega
 exact⟨by omega,by omega⟩
def SaysP (t:TypeId) (e:Ending) (o:Option (Int × Int × Int)):Prop:=
 match o with
 | some r=>e=.returned (.tuple #[.int .i64 r.1,.int .i64 r.2.1,.int .i64 r.2.2])
 | none=>∃ c:Int,c≠0∧e=.panicked [{ v:=.iface t (.int .i64 c),recovered:=false }]
theorem SaysP.no {t:TypeId} {c:Int} {o:Option (Int × Int × Int)} (h:o=none) (hc:c≠0):SaysP t (.panicked [{ v:=.iface t (.int .i64 c),recovered:=false }]) o:=by subst h;exact⟨c,hc,rfl⟩
theorem SaysP.yes {t:TypeId} {x y z:Int} {o:Option (Int × Int × Int)} (h:o=some (x,y,z)):SaysP t (.returned (.tuple #[.int .i64 x,.int .i64 y,.int .i64 z])) o:=by subst h;rfl
end Go.Rt
namespace Go.Rt
open Go Go.RowKit Go.Proofs
def outL (n:Nat) (f:Nat→Int):List Int:=(List.range n).map f
theorem outL_i64 {n:Nat} {f:Nat→Int} (h:∀ i,I64 (f i)):∀ x ∈ outL n f,I64 x:=by
 intro x hx
 unfold outL at hx
 rw[List.mem_map]at hx
 obtain⟨i,-,rfl⟩:=hx
 exact h i
end Go.Rt
