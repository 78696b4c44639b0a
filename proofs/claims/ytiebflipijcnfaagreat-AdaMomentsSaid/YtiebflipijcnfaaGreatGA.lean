/-
  Plain mathematics of limbs: lists of figures below a base, their number, and what follows. No program in sight.
  Words on memory: a slice that reads as a list of limbs ('Nt'), as a number ('Nw'); a world that has only grown ('Ext').
  A range over a function, by rounds that are counted: what the caller owes is an invariant told by how many rounds are over, its body walked once, and what follows. The iterator's word ('Iter') is told of whatever invariant.
  slices.Backward over limbs: the iterator's word.
  cmp.Compare at int and at uint64; nat.Cmp.
  nat.Cmp tells which number is greater.
  Contracts of the small functions on limbs: bare, Of, Right, Few, Bare.
-/
import Derived.WalkKit
import Derived.WalkLawsBesides
import Derived.WalkSpells
import Derived.Lib.Hide
import Derived.Laws.AppendOwnNone
import Derived.Laws.CopyOwn
import Derived.OwnWalkIn
import Derived.StillTailTactics
import Derived.Deep.RegionHeld3
import Derived.Deep.AppendLies
import Derived.Deep.QuietTactic
import Derived.BigQuiet
import Derived.RangeFuncNested
import Derived.RangeFuncBound
import Derived.RangeFuncCalls
import Derived.RangeFuncLeaves
import Derived.Shelf.Abstract
import Derived.Shelf.RegionOpen
import Derived.TacticsInMore
import Derived.LoopNIn
import Derived.LoopIn
import Derived.Test.YtiebflipijcnfaaGreatChecked
namespace Go.Rt
def B64:Nat:=18446744073709551616
def B32:Nat:=4294967296
theorem B64_eq:B64=18446744073709551616:=rfl
theorem B32_eq:B32=4294967296:=rfl
theorem B64_pos:0 < B64:=by rw[B64_eq];omega
theorem B32_pos:0 < B32:=by rw[B32_eq];omega
theorem B64_two:B64=2^64:=by decide +kernel
theorem B64_sq:B64=B32*B32:=by decide +kernel
def ev (b:Nat):List Nat→Nat
 | []=>0
 | x :: xs=>x+b*ev b xs
def Lim (b:Nat) (xs:List Nat):Prop:=∀ x ∈ xs,x < b
def Norm (xs:List Nat):Prop:=xs.length=0∨xs.getD (xs.length - 1) 0≠0
@[simp] theorem ev_nil (b:Nat):ev b []=0:=rfl
theorem ev_cons (b x:Nat) (xs:List Nat):ev b (x :: xs)=x+b*ev b xs:=rfl
theorem ev_append (b:Nat) (xs ys:List Nat):ev b (xs++ys)=ev b xs+b^xs.length*ev b ys:=by
 induction xs with
 | nil=>simp
 | cons x xs ih=>
  rw[List.cons_append,ev_cons,ev_cons,ih,List.length_cons,Nat.pow_succ,Nat.mul_add,Nat.add_assoc,Nat.mul_comm (b^xs.length) b,Nat.mul_assoc]
theorem ev_single (b x:Nat):ev b [x]=x:=by simp[ev]
theorem ev_snoc (b x:Nat) (xs:List Nat):ev b (xs++[x])=ev b xs+b^xs.length*x:=by rw[ev_append,ev_single]
theorem Lim.nil (b:Nat):Lim b []:=fun _ h=>by cases h
theorem Lim.cons {b x:Nat} {xs:List Nat} (hx:x < b) (h:Lim b xs):Lim b (x :: xs):=fun y hy=>by
 rcases List.mem_cons.1 hy with rfl | hy
 ·exact hx
 ·exact h y hy
theorem Lim.append {b:Nat} {xs ys:List Nat} (h:Lim b xs) (k:Lim b ys):Lim b (xs++ys):=fun x hx=>by
 rcases List.mem_append.1 hx with hx | hx
 ·exact h x hx
 ·exact k x hx
theorem Lim.snoc {b x:Nat} {xs:List Nat} (h:Lim b xs) (hx:x < b):Lim b (xs++[x]):=h.append (Lim.cons hx (Lim.nil b))
theorem Lim.left {b:Nat} {xs ys:List Nat} (h:Lim b (xs++ys)):Lim b xs:=fun x hx=>h x (List.mem_append.2 (.inl hx))
theorem Lim.right {b:Nat} {xs ys:List Nat} (h:Lim b (xs++ys)):Lim b ys:=fun x hx=>h x (List.mem_append.2 (.inr hx))
theorem Lim.take {b:Nat} {xs:List Nat} (h:Lim b xs) (k:Nat):Lim b (xs.take k):=fun x hx=>h x (List.mem_of_mem_take hx)
theorem Lim.drop {b:Nat} {xs:List Nat} (h:Lim b xs) (k:Nat):Lim b (xs.drop k):=fun x hx=>h x (List.mem_of_mem_drop hx)
theorem Lim.getD {b:Nat} {xs:List Nat} (h:Lim b xs) (hb:0 < b) (i:Nat):xs.getD i 0 < b:=by
 rcases Nat.lt_or_ge i xs.length with hi | hi
 ·rw[List.getD_eq_getElem?_getD,List.getElem?_eq_getElem hi];exact h _ (List.getElem_mem hi)
 ·rw[List.getD_eq_getElem?_getD,List.getElem?_eq_none hi];exact hb
theorem ev_lt {b:Nat}:∀ {xs:List Nat},Lim b xs→ev b xs < b^xs.length
 | [],_=>by simp
 | x :: xs,h=>by
  have h1:x < b:=h x (by simp)
  have h2:=ev_lt (xs:=xs) (fun y hy=>h y (by simp[hy]))
  rw[ev_cons,List.length_cons,Nat.pow_succ]
  have h3:b*(ev b xs+1)≤b*b^xs.length:=Nat.mul_le_mul_left b h2
  rw[Nat.mul_add,Nat.mul_one]at h3
  rw[Nat.mul_comm (b^xs.length) b]
  omega
theorem ev_zeros (b n:Nat):ev b (List.replicate n 0)=0:=by
 induction n with
 | zero=>rfl
 | succ n ih=>rw[List.replicate_succ,ev_cons,ih];simp
theorem take_add_one {xs:List Nat} {k:Nat} (h:k < xs.length):xs.take (k+1)=xs.take k++[xs.getD k 0]:=by
 rw[List.take_succ_eq_append_getElem h,List.getD_eq_getElem?_getD,List.getElem?_eq_getElem h];rfl
theorem ev_take_succ {b:Nat} {xs:List Nat} {k:Nat} (h:k < xs.length):ev b (xs.take (k+1))=ev b (xs.take k)+b^k*xs.getD k 0:=by
 rw[take_add_one h,ev_snoc,List.length_take,Nat.min_eq_left (Nat.le_of_lt h)]
theorem ev_split {b:Nat} (xs:List Nat) (k:Nat) (h:k≤xs.length):ev b xs=ev b (xs.take k)+b^k*ev b (xs.drop k):=by
 conv=>lhs;rw[← List.take_append_drop k xs]
 rw[ev_append,List.length_take,Nat.min_eq_left h]
theorem drop_cons {xs:List Nat} {k:Nat} (h:k < xs.length):xs.drop k=xs.getD k 0 :: xs.drop (k+1):=by
 rw[List.drop_eq_getElem_cons h,List.getD_eq_getElem?_getD,List.getElem?_eq_getElem h];rfl
/-! what a number's figures are -/
theorem Norm.ge {b:Nat} {xs:List Nat} (h:Norm xs) (hp:0 < xs.length):b^(xs.length - 1)≤ev b xs:=by
 rcases h with h | h
 ·omega
 ·have hk:xs.length - 1 < xs.length:=by omega
  have e:=ev_take_succ (b:=b) hk
  rw[show xs.length - 1+1=xs.length from by omega,List.take_length]at e
  rw[e]
  have:b^(xs.length - 1)*1≤b^(xs.length - 1)*xs.getD (xs.length - 1) 0:=Nat.mul_le_mul_left _ (by omega)
  omega
theorem Norm.zero_iff {b:Nat} (hb:0 < b) {xs:List Nat} (h:Norm xs):ev b xs=0↔xs.length=0:=by
 constructor
 ·intro e
  rcases Nat.eq_zero_or_pos xs.length with h0 | h0
  ·exact h0
  ·have:=h.ge (b:=b) h0
   have hp:=Nat.pow_pos (n:=xs.length - 1) hb
   omega
 ·intro e
  have:=List.eq_nil_of_length_eq_zero e
  subst this;rfl
theorem len_le_iff {b:Nat} (hb:1 < b) {xs:List Nat} (hl:Lim b xs) (h:Norm xs) (L:Nat):xs.length≤L↔ev b xs < b^L:=by
 constructor
 ·intro e
  exact Nat.lt_of_lt_of_le (ev_lt hl) (Nat.pow_le_pow_right (by omega) e)
 ·intro e
  rcases Nat.lt_or_ge L xs.length with h1 | h1
  ·have h2:=h.ge (b:=b) (by omega)
   have h3:b^L≤b^(xs.length - 1):=Nat.pow_le_pow_right (by omega) (by omega)
   omega
  ·exact h1
theorem ev_lt_of_len {b:Nat} (hb:0 < b) {xs ys:List Nat} (hl:Lim b xs) (hn:Norm ys) (h:xs.length < ys.length):ev b xs < ev b ys:=by
 have h1:=ev_lt hl
 have h2:=hn.ge (b:=b) (by omega)
 have h3:b^xs.length≤b^(ys.length - 1):=Nat.pow_le_pow_right hb (by omega)
 omega
theorem ev_lt_of_at {b:Nat} {xs ys:List Nat} (hl:Lim b xs) (hlen:xs.length=ys.length) (k:Nat) (hk:k < xs.length)
  (hd:xs.drop (k+1)=ys.drop (k+1)) (hlt:xs.getD k 0 < ys.getD k 0):ev b xs < ev b ys:=by
 rw[ev_split xs k (by omega),ev_split ys k (by omega),drop_cons hk,drop_cons (show k < ys.length by omega),hd,ev_cons,ev_cons]
 have h1:=ev_lt (hl.take k)
 rw[List.length_take,Nat.min_eq_left (by omega)]at h1
 have h2:b^k*(xs.getD k 0+1)≤b^k*ys.getD k 0:=Nat.mul_le_mul_left _ hlt
 rw[Nat.mul_add,Nat.mul_one]at h2
 rw[Nat.mul_add,Nat.mul_add]
 omega
theorem ev_inj {b:Nat} (hb:0 < b):∀ {xs ys:List Nat},Lim b xs→Lim b ys→xs.length=ys.length→ev b xs=ev b ys→xs=ys
 | [],[],_,_,_,_=>rfl
 | x :: xs,y :: ys,h1,h2,hl,he=>by
  have hx:x < b:=h1 x (by simp)
  have hy:y < b:=h2 y (by simp)
  rw[ev_cons,ev_cons]at he
  have e1:x=y:=by
   have:=congrArg (· % b) he
   simpa [Nat.add_mul_mod_self_left,Nat.mod_eq_of_lt hx,Nat.mod_eq_of_lt hy] using this
  subst e1
  have e2:ev b xs=ev b ys:=Nat.eq_of_mul_eq_mul_left hb (Nat.add_left_cancel he)
  rw[ev_inj hb (fun z hz=>h1 z (by simp[hz])) (fun z hz=>h2 z (by simp[hz])) (by simpa using hl) e2]
theorem Norm.unique {b:Nat} (hb:1 < b) {xs ys:List Nat} (h1:Lim b xs) (h2:Lim b ys) (n1:Norm xs) (n2:Norm ys) (he:ev b xs=ev b ys):xs=ys:=by
 refine ev_inj (by omega) h1 h2 ?_ he
 have a1:=(len_le_iff hb h1 n1 ys.length).2 (he ▸ (len_le_iff hb h2 n2 _).1 (Nat.le_refl _))
 have a2:=(len_le_iff hb h2 n2 xs.length).2 (he ▸ (len_le_iff hb h1 n1 _).1 (Nat.le_refl _))
 omega
theorem bare_take {b:Nat} {xs:List Nat} {k:Nat} (hk:k≤xs.length) (hz:∀ i,k≤i→i < xs.length→xs.getD i 0=0):ev b (xs.take k)=ev b xs:=by
 rw[ev_split xs k hk]
 have:xs.drop k=List.replicate (xs.length - k) 0:=by
  apply List.ext_getElem
  ·simp
  ·intro i h1 h2
   rw[List.getElem_drop,List.getElem_replicate]
   have:=hz (k+i) (by omega) (by rw[List.length_drop]at h1;omega)
   rw[List.getD_eq_getElem?_getD,List.getElem?_eq_getElem (by rw[List.length_drop]at h1;omega)]at this
   exact this
 rw[this,ev_zeros];simp
theorem norm_take {xs:List Nat} {k:Nat} (hk:k≤xs.length) (h:k=0∨xs.getD (k - 1) 0≠0):Norm (xs.take k):=by
 unfold Norm
 rw[List.length_take,Nat.min_eq_left hk]
 rcases h with h | h
 ·exact .inl h
 ·rcases Nat.eq_zero_or_pos k with h0 | h0
  ·exact .inl h0
  ·right
   rw[List.getD_eq_getElem?_getD,List.getElem?_take,if_pos (by omega)]
   rwa [List.getD_eq_getElem?_getD]at h
/-! halves of limbs -/
theorem B32_pow (k:Nat):B32^(2*k)=B64^k:=by rw[Nat.pow_mul,B64_sq,show B32^2=B32*B32 from Nat.pow_two B32]
theorem half_lt {x:Nat} (h:x < B64):x % B32 < B32∧x / B32 < B32:=
 ⟨Nat.mod_lt _ B32_pos,Nat.div_lt_of_lt_mul (by rw[← B64_sq];exact h)⟩
theorem half_step {l xs:List Nat} {k:Nat} (hl:l.length=2*k) (he:ev B32 l=ev B64 (xs.take k)) (hk:k < xs.length):
  ev B32 (l++[xs.getD k 0 % B32,xs.getD k 0 / B32])=ev B64 (xs.take (k+1)):=by
 rw[ev_append,he,ev_take_succ hk,hl,B32_pow,ev_cons,ev_single]
 rw[show xs.getD k 0 % B32+B32*(xs.getD k 0 / B32)=xs.getD k 0 from Nat.mod_add_div _ _]
theorem whole_step2 {l xs:List Nat} {k:Nat} (hx:xs.length=k) (he:ev B64 xs=ev B32 (l.take (2*k))) (hk:2*k+1 < l.length):
  ev B64 (xs++[l.getD (2*k) 0+l.getD (2*k+1) 0*B32])=ev B32 (l.take (2*(k+1))):=by
 rw[ev_snoc,he,show 2*(k+1)=(2*k+1)+1 from by omega,ev_take_succ hk,ev_take_succ (show 2*k < l.length by omega),hx,← B32_pow,Nat.pow_succ,Nat.mul_add]
 rw[Nat.mul_comm (l.getD (2*k+1) 0) B32,← Nat.mul_assoc,Nat.add_assoc]
theorem whole_step1 {l xs:List Nat} {k:Nat} (hx:xs.length=k) (he:ev B64 xs=ev B32 (l.take (2*k))) (hk:2*k+1=l.length):
  ev B64 (xs++[l.getD (2*k) 0])=ev B32 l:=by
 have h:=ev_take_succ (b:=B32) (xs:=l) (k:=2*k) (by omega)
 rw[show 2*k+1=l.length from hk,List.take_length]at h
 rw[ev_snoc,he,h,hx,B32_pow]
theorem whole_lt {x y:Nat} (hx:x < B32) (hy:y < B32):x+y*B32 < B64:=by
 have h:(y+1)*B32≤B32*B32:=Nat.mul_le_mul_right _ hy
 rw[← B64_sq,Nat.add_mul,Nat.one_mul]at h
 omega
theorem B32_lt:B32 < B64:=by rw[B32_eq,B64_eq];omega
theorem Lim.mono {b c:Nat} {xs:List Nat} (h:Lim b xs) (hbc:b≤c):Lim c xs:=fun x hx=>Nat.lt_of_lt_of_le (h x hx) hbc
/-! sizes: fewer than so many limbs -/
def Sm (L N:Nat):Prop:=N < B64^L
theorem Sm.mono {L L' N:Nat} (h:Sm L N) (hl:L≤L'):Sm L' N:=Nat.lt_of_lt_of_le h (Nat.pow_le_pow_right B64_pos hl)
theorem Sm.le {L N M:Nat} (h:Sm L N) (hm:M≤N):Sm L M:=Nat.lt_of_le_of_lt hm h
theorem Sm.mul {L L' N M:Nat} (h:Sm L N) (k:Sm L' M):Sm (L+L') (N*M):=by
 unfold Sm at *
 rw[Nat.pow_add]
 rcases Nat.eq_zero_or_pos M with rfl | hp
 ·rw[Nat.mul_zero];exact Nat.mul_pos (Nat.pow_pos B64_pos) (Nat.pow_pos B64_pos)
 ·exact Nat.lt_of_lt_of_le (Nat.mul_lt_mul_of_pos_right h hp) (Nat.mul_le_mul_left _ (Nat.le_of_lt k))
theorem B64_two_le:2≤B64:=by rw[B64_eq];omega
theorem Sm.add {L N M:Nat} (h:Sm L N) (k:Sm L M):Sm (L+1) (N+M):=by
 unfold Sm at *
 rw[Nat.pow_succ]
 have:=Nat.mul_le_mul_left (B64^L) B64_two_le
 omega
theorem Sm.one {N:Nat} (h:N < B64):Sm 1 N:=by unfold Sm;rwa [Nat.pow_one]
theorem Sm.small {N:Nat} (h:N < 18446744073709551616):Sm 1 N:=Sm.one (by rw[B64_eq];exact h)
theorem Sm.pow2 (k:Nat):Sm (k / 64+1) (2^k):=by
 unfold Sm
 rw[B64_two,← Nat.pow_mul]
 exact Nat.pow_lt_pow_right (by omega) (by omega)
/-! sums, figure by figure -/
theorem ev_take_succ' (b:Nat) (xs:List Nat) (k:Nat):ev b (xs.take (k+1))=ev b (xs.take k)+b^k*xs.getD k 0:=by
 rcases Nat.lt_or_ge k xs.length with h | h
 ·exact ev_take_succ h
 ·rw[List.take_of_length_le (by omega),List.take_of_length_le h,List.getD_eq_getElem?_getD,List.getElem?_eq_none h];simp
theorem add_step {b:Nat} {l x y:List Nat} {k c:Nat} (hl:l.length=k) (he:ev b l+b^k*c=ev b (x.take k)+ev b (y.take k)):
  ev b (l++[(x.getD k 0+y.getD k 0+c) % b])+b^(k+1)*((x.getD k 0+y.getD k 0+c) / b)=ev b (x.take (k+1))+ev b (y.take (k+1)):=by
 rw[ev_snoc,hl,ev_take_succ',ev_take_succ']
 generalize x.getD k 0=p
 generalize y.getD k 0=q
 have h:=Nat.mod_add_div (p+q+c) b
 have h2:b^k*((p+q+c) % b)+b^(k+1)*((p+q+c) / b)=b^k*(p+q+c):=by
  rw[Nat.pow_succ,Nat.mul_assoc,← Nat.mul_add,h]
 rw[Nat.mul_add,Nat.mul_add]at h2
 omega
theorem add_end {b:Nat} (hb:2≤b) {l x y:List Nat} {m c:Nat} (hx:Lim b x) (hy:Lim b y) (hxm:x.length≤m) (hym:y.length≤m)
  (he:ev b l+b^(m+1)*c=ev b (x.take (m+1))+ev b (y.take (m+1))):ev b l=ev b x+ev b y:=by
 rw[List.take_of_length_le (by omega),List.take_of_length_le (by omega)]at he
 have h1:=Nat.lt_of_lt_of_le (ev_lt hx) (Nat.pow_le_pow_right (by omega) hxm)
 have h2:=Nat.lt_of_lt_of_le (ev_lt hy) (Nat.pow_le_pow_right (by omega) hym)
 have h3:b^m*2≤b^(m+1):=by rw[Nat.pow_succ];exact Nat.mul_le_mul_left _ hb
 rcases Nat.eq_zero_or_pos c with rfl | hc
 ·simpa using he
 ·have:b^(m+1)*1≤b^(m+1)*c:=Nat.mul_le_mul_left _ hc
  omega
theorem sub_step {b:Nat} (hb:0 < b) {l x y:List Nat} {k c:Nat} (hl:l.length=k) (hc:c≤1) (hx:x.getD k 0 < b) (hy:y.getD k 0 < b)
  (he:ev b l+ev b (y.take k)=ev b (x.take k)+b^k*c) {n:Nat} (hn:n=b+x.getD k 0 - y.getD k 0 - c):
  ev b (l++[n % b])+ev b (y.take (k+1))=ev b (x.take (k+1))+b^(k+1)*(1 - n / b)∧1 - n / b≤1∧n / b≤1:=by
 rw[ev_snoc,hl,ev_take_succ',ev_take_succ']
 generalize x.getD k 0=p at *
 generalize y.getD k 0=q at *
 have h:=Nat.mod_add_div n b
 have hn2:n < 2*b:=by omega
 have hdiv:n / b < 2:=Nat.div_lt_of_lt_mul (by omega)
 generalize n / b=d at *
 generalize n % b=r at *
 have key:r+q+c=p+b*(1 - d):=by
  rcases(show d=0∨d=1 by omega)with e | e
  ·subst e;simp at h ⊢;omega
  ·subst e;simp at h ⊢;omega
 refine⟨?_,by omega,by omega⟩
 have h2:b^k*(r+q+c)=b^k*(p+b*(1 - d)):=by rw[key]
 rw[Nat.mul_add,Nat.mul_add,Nat.mul_add,← Nat.mul_assoc,show b^k*b=b^(k+1) from rfl]at h2
 omega
theorem sub_end {b:Nat} {l x y:List Nat} {c:Nat} (hl:Lim b l) (hll:l.length=x.length) (hyx:y.length≤x.length) (hle:ev b y≤ev b x)
  (he:ev b l+ev b (y.take x.length)=ev b (x.take x.length)+b^x.length*c):ev b l=ev b x - ev b y:=by
 rw[List.take_of_length_le hyx,List.take_length]at he
 have h1:=ev_lt hl
 rw[hll]at h1
 rcases Nat.eq_zero_or_pos c with rfl | hc
 ·rw[Nat.mul_zero]at he;omega
 ·have:b^x.length*1≤b^x.length*c:=Nat.mul_le_mul_left _ hc
  omega
/-! products, figure by figure -/
theorem ev_set (b:Nat):∀ (xs:List Nat) (j v:Nat),j < xs.length→ev b (xs.set j v)+b^j*xs.getD j 0=ev b xs+b^j*v
 | x :: xs,0,v,_=>by simp[ev];omega
 | x :: xs,j+1,v,h=>by
  have ih:=ev_set b xs j v (by simpa using h)
  simp only[List.set_cons_succ,ev_cons,List.getD_cons_succ]
  have h2:b*(ev b (xs.set j v)+b^j*xs.getD j 0)=b*(ev b xs+b^j*v):=by rw[ih]
  rw[Nat.mul_add,Nat.mul_add]at h2
  rw[Nat.pow_succ,Nat.mul_comm (b^j) b,Nat.mul_assoc,Nat.mul_assoc]
  omega
theorem getD_set_ne {xs:List Nat} {i j v:Nat} (h:i≠j):(xs.set j v).getD i 0=xs.getD i 0:=by
 rw[List.getD_eq_getElem?_getD,List.getD_eq_getElem?_getD,List.getElem?_set_ne (fun e=>h e.symm)]
theorem getD_set_eq {xs:List Nat} {j v:Nat} (h:j < xs.length):(xs.set j v).getD j 0=v:=by
 rw[List.getD_eq_getElem?_getD,List.getElem?_set_self h];rfl
theorem Lim.set {b v:Nat} {xs:List Nat} (h:Lim b xs) (hv:v < b) (j:Nat):Lim b (xs.set j v):=fun x hx=>by
 rcases List.mem_or_eq_of_mem_set hx with hx | rfl
 ·exact h x hx
 ·exact hv
theorem Lim.zeros {b:Nat} (hb:0 < b) (n:Nat):Lim b (List.replicate n 0):=fun x hx=>by rw[List.eq_of_mem_replicate hx];exact hb
theorem mul_step {b:Nat} {out x y:List Nat} {i k c T n:Nat} (hk:i+k < out.length)
  (he:ev b out+b^(i+k)*c=T+b^i*(x.getD i 0*ev b (y.take k))) (hn:n=out.getD (i+k) 0+x.getD i 0*y.getD k 0+c):
  ev b (out.set (i+k) (n % b))+b^(i+(k+1))*(n / b)=T+b^i*(x.getD i 0*ev b (y.take (k+1))):=by
 have h1:=ev_set b out (i+k) (n % b) hk
 rw[ev_take_succ']
 have h:=Nat.mod_add_div n b
 generalize out.getD (i+k) 0=o at *
 generalize x.getD i 0=p at *
 generalize y.getD k 0=q at *
 have h2:b^(i+k)*(n % b)+b^(i+(k+1))*(n / b)=b^(i+k)*(o+p*q+c):=by
  rw[show i+(k+1)=(i+k)+1 from by omega,Nat.pow_succ,Nat.mul_assoc,← Nat.mul_add,h,hn]
 have h3:b^i*(p*(ev b (y.take k)+b^k*q))=b^i*(p*ev b (y.take k))+b^(i+k)*(p*q):=by
  rw[Nat.mul_add,Nat.mul_add,Nat.pow_add]
  congr 1
  rw[Nat.mul_left_comm p,← Nat.mul_assoc]
 rw[h3]
 rw[Nat.mul_add,Nat.mul_add]at h2
 omega
theorem mul_lt {b o p q c n:Nat} (ho:o < b) (hp:p < b) (hq:q < b) (hc:c < b) (hn:n=o+p*q+c):n < b*b∧n / b < b:=by
 have h1:n < b*b:=by
  have:(p+1)*(q+1)≤b*b:=Nat.mul_le_mul hp hq
  have e:(p+1)*(q+1)=p*q+p+q+1:=by rw[Nat.add_mul,Nat.mul_add,Nat.one_mul,Nat.mul_one];omega
  have h2:p*q≤(b - 1)*(b - 1):=Nat.mul_le_mul (by omega) (by omega)
  obtain⟨d,rfl⟩:∃ d,b=d+1:=⟨b - 1,by omega⟩
  simp only[Nat.add_sub_cancel]at h2
  have e2:(d+1)*(d+1)=d*d+d+d+1:=by rw[Nat.add_mul,Nat.mul_add,Nat.one_mul,Nat.mul_one];omega
  omega
 exact⟨h1,Nat.div_lt_of_lt_mul h1⟩
theorem mul_row {b:Nat} {out x y:List Nat} {i c:Nat} (hi:i+y.length < out.length) (hz:out.getD (i+y.length) 0=0)
  (he:ev b out+b^(i+y.length)*c=ev b (x.take i)*ev b y+b^i*(x.getD i 0*ev b (y.take y.length))):
  ev b (out.set (i+y.length) c)=ev b (x.take (i+1))*ev b y:=by
 have h1:=ev_set b out (i+y.length) c hi
 rw[hz,Nat.mul_zero]at h1
 rw[ev_take_succ',Nat.add_mul,← Nat.mul_assoc]at *
 rw[List.take_length]at he
 omega
end Go.Rt
namespace Go.Rt
open Go.RowKit
def lg (xs:List Nat) (i:Nat):Nat:=xs.getD i 0
def Ext (w w':World):Prop:=Below w.heap.size w w'
theorem Ext.refl (w:World):Ext w w:=Below.refl _ _
theorem Ext.size {w w':World} (h:Ext w w'):w.heap.size≤w'.heap.size:=Below.size h
theorem Ext.trans {a b c:World} (h:Ext a b) (k:Ext b c):Ext a c:=Below.trans h (Below.mono k h.size)
theorem Ext.drew {a b:World} (h:Ext a b):Ext a b.drew:=Below.drew h
theorem Ext.drewN {a b:World} (h:Ext a b) (n:Nat):Ext a (b.drewN n):=Below.trans h ⟨rfl,rfl,rfl,Nat.le_refl _,fun _ _=>rfl⟩
theorem Ext.drew1 (a:World):Ext a a.drew:=(Ext.refl a).drew
theorem Ext.alloc {a b:World} (h:Ext a b) (o:Obj):Ext a (b.alloc o):=Below.alloc h h.size o
theorem Ext.alloc1 (a:World) (o:Obj):Ext a (a.alloc o):=(Ext.refl a).alloc o
theorem Ext.setCell {a b:World} (h:Ext a b) {p:Addr} (hp:a.heap.size≤p.block) (v:Value):Ext a (b.setCell p v):=Below.setCell h hp v
theorem Ext.grown {a b c:World} {row:Option Nat} (h:Ext a b) (hg:b.grownBy c row) (hr:∀ k,row=some k→a.heap.size≤k):Ext a c:=Below.grown h hg h.size hr
theorem Ext.cell {w w':World} (h:Ext w w') {p:Addr} {v:Value} (hc:w.cell? p=some v):w'.cell? p=some v:=
 (Below.cell h (World.block_lt_of_cell? w p hc)).trans hc
theorem heap_last (w:World) (o:Obj):(w.alloc o).heap[w.heap.size]? = some o:=heap_alloc_new w o
theorem heap_last_drew (w:World) (o:Obj):(w.alloc o).drew.heap[w.heap.size]? = some o:=heap_alloc_new w o
theorem quiet_same {P:Program} {f:FuncId} {args:Array Value} {w:World} {n:Nat} {v:Value} (h:Calls P f args (w.drewN n) fun e w'=>e=.returned v∧w.drewN n=w'):Calls P f args (w.drewN n) fun e w''=>e=.returned v∧∃ m,w''=w.drewN m:=
 h.mono fun _ _ ⟨he,hm⟩=>⟨he,n,hm.symm⟩
theorem Ext.below {w w':World} (h:Ext w w'):Below w.heap.size w w':=h
theorem ret_i {k:IntKind} {a b:Int} (h:a=b):Ending.returned (.int k a)=.returned (.int k b):=by rw[h]
theorem ret_b {a b:Bool} (h:a=b):Ending.returned (.bool a)=.returned (.bool b):=by rw[h]
def Sl (w:World) (a:Option Addr) (b o n cap:Nat) (c:Nat→Value):Prop:=
 (a=some ⟨b,o,none⟩∨(a=none∧n=0∧cap=0))∧n≤cap∧cap≤maxLen∧∀ i,i < n→w.cell? ⟨b,o+i,none⟩=some (c i)
theorem Sl.ext {w w':World} (h:Ext w w') {a:Option Addr} {b o n cap:Nat} {c:Nat→Value} (s:Sl w a b o n cap c):Sl w' a b o n cap c:=
 ⟨s.1,s.2.1,s.2.2.1,fun i hi=>h.cell (s.2.2.2 i hi)⟩
theorem Sl.cell {w:World} {a:Option Addr} {b o n cap:Nat} {c:Nat→Value} (s:Sl w a b o n cap c) {i:Nat} (hi:i < n):w.cell? ⟨b,o+i,none⟩=some (c i):=s.2.2.2 i hi
theorem Sl.addr {w:World} {a:Option Addr} {b o n cap:Nat} {c:Nat→Value} (s:Sl w a b o n cap c) (hn:0 < n):a=some ⟨b,o,none⟩:=by
 rcases s.1 with h | ⟨_,h,_⟩
 ·exact h
 ·omega
theorem Sl.le {w:World} {a:Option Addr} {b o n cap:Nat} {c:Nat→Value} (s:Sl w a b o n cap c):n≤cap:=s.2.1
theorem Sl.max {w:World} {a:Option Addr} {b o n cap:Nat} {c:Nat→Value} (s:Sl w a b o n cap c):cap≤9223372036854775807:=s.2.2.1
theorem Sl.part {w:World} {a:Option Addr} {b o n cap:Nat} {c c':Nat→Value} (s:Sl w a b o n cap c) (k:Nat) (hk:k≤n) (hc:∀ i,i < k→c i=c' i):Sl w a b o k cap c':=
 ⟨s.1.imp id (fun h=>⟨h.1,by omega,h.2.2⟩),Nat.le_trans hk s.le,s.2.2.1,fun i hi=>by rw[← hc i hi];exact s.cell (by omega)⟩
theorem lg_take {xs:List Nat} {k i:Nat} (h:i < k):lg (xs.take k) i=lg xs i:=by
 unfold lg
 rw[List.getD_eq_getElem?_getD,List.getD_eq_getElem?_getD,List.getElem?_take,if_pos h]
theorem Sl.take {w:World} {a:Option Addr} {b o n cap:Nat} {xs:List Nat} (s:Sl w a b o n cap (fun i=>.int .u64 ((lg xs i:Nat):Int))) (k:Nat) (hk:k≤n):
  Sl w a b o k cap (fun i=>.int .u64 ((lg (xs.take k) i:Nat):Int)):=s.part k hk (fun i hi=>by simp only[lg_take hi])
def U (n:Nat):Value:=.int .u64 (n:Int)
def Nt (w:World) (v:Value) (xs:List Nat):Prop:=
 ∃ a b o cap,v=.slice a xs.length cap∧Sl w a b o xs.length cap (fun i=>.int .u64 ((lg xs i:Nat):Int))∧Lim B64 xs
theorem Nt.ext {w w':World} (h:Ext w w') {v:Value} {xs:List Nat} (s:Nt w v xs):Nt w' v xs:=
 let ⟨a,b,o,cap,hv,hs,hl⟩:=s
 ⟨a,b,o,cap,hv,hs.ext h,hl⟩
theorem Nt.lim {w:World} {v:Value} {xs:List Nat} (s:Nt w v xs):Lim B64 xs:=let ⟨_,_,_,_,_,_,hl⟩:=s;hl
theorem Nt.nil (w:World):Nt w (.slice none 0 0) []:=⟨none,0,0,0,rfl,⟨.inr ⟨rfl,rfl,rfl⟩,Nat.le_refl _,Nat.zero_le _,fun i hi=>by cases hi⟩,Lim.nil _⟩
def Nw (w:World) (v:Value) (N:Nat):Prop:=∃ xs,Nt w v xs∧Norm xs∧ev B64 xs=N
theorem Nw.ext {w w':World} (h:Ext w w') {v:Value} {N:Nat} (s:Nw w v N):Nw w' v N:=let ⟨xs,h1,h2⟩:=s;⟨xs,h1.ext h,h2⟩
theorem Nw.nil (w:World):Nw w (.slice none 0 0) 0:=⟨[],Nt.nil w,.inl rfl,rfl⟩
theorem Nw.mk {w:World} {v:Value} {xs:List Nat} (h:Nt w v xs) (n:Norm xs):Nw w v (ev B64 xs):=⟨xs,h,n,rfl⟩
theorem Nw.lens {w:World} {v:Value} {N L:Nat} (h:Nw w v N) (s:Sm L N):∃ xs,Nt w v xs∧Norm xs∧ev B64 xs=N∧xs.length≤L:=by
 obtain⟨xs,h1,h2,h3⟩:=h
 exact⟨xs,h1,h2,h3,(len_le_iff (by rw[B64_eq];omega) h1.lim h2 L).2 (h3 ▸ s)⟩
theorem Nw.len {w:World} {v:Value} {N:Nat} (h:Nw w v N):∃ a n cap,v=.slice a n cap∧(n=0↔N=0)∧∀ L,n≤L↔N < B64^L:=by
 obtain⟨xs,⟨a,b,o,cap,hv,hs,hl⟩,hn,he⟩:=h
 refine⟨a,xs.length,cap,hv,?_,fun L=>?_⟩
 ·rw[← he];exact(hn.zero_iff B64_pos).symm
 ·rw[← he];exact len_le_iff (by rw[B64_eq];omega) hl hn L
theorem Nt.nil0 (w:World) (e:TypeId):Nw (w.alloc (.cells #[] e)) (.slice (some ⟨w.heap.size,0,none⟩) 0 0) 0:=
 ⟨[],⟨_,w.heap.size,0,0,rfl,⟨.inl rfl,Nat.le_refl _,Nat.zero_le _,fun i hi=>by cases hi⟩,Lim.nil _⟩,.inl rfl,rfl⟩
/-! ### what the call itself owns -/
theorem lg_lt {xs:List Nat} (h:Lim B64 xs) (i:Nat):lg xs i < B64:=h.getD B64_pos i
theorem lg_eq {xs:List Nat} {i:Nat} (h:i < xs.length):lg xs i=xs[i]:=by
 unfold lg;rw[List.getD_eq_getElem?_getD,List.getElem?_eq_getElem h];rfl
theorem Nt.of_own {w:World} {base e:Nat} {v:Value} {n:Nat} {xs:List Nat} (h:w.ownsRow base e 1 v n (xs.map U)) (hl:Lim B64 xs):Nt w v xs:=by
 obtain⟨h1,h2⟩:=h
 have hn:xs.length=n:=by simpa using h1
 subst hn
 rcases h2 with ⟨rfl,h0⟩ | ⟨g,cap,cur,rfl,hg,hh,hc,hm,hz,ht⟩
 ·have:=List.eq_nil_of_length_eq_zero h0
  subst this
  exact Nt.nil w
 ·refine⟨_,g,0,cap,rfl,⟨.inl rfl,hc,hm,fun i hi=>?_⟩,hl⟩
  have hown:w.ownsRow base e 1 (.slice (some ⟨g,0,none⟩) xs.length cap) xs.length (xs.map U):=⟨by simp,.inr ⟨g,cap,cur,rfl,hg,hh,hc,hm,hz,ht⟩⟩
  rw[Nat.zero_add,hown.cellAt i (by omega),List.getElem?_map,List.getElem?_eq_getElem hi]
  show some (Value.int .u64 ((xs[i]:Nat):Int))=some (Value.int .u64 ((lg xs i:Nat):Int))
  rw[lg_eq hi]
def Fr (w:World) (v:Value):Prop:=∀ k,v.ownBlock=some k→w.heap.size≤k
theorem Fr.nil (w:World):Fr w (.slice none 0 0):=fun k h=>by cases h
theorem Fr.back {a b:World} {v:Value} (h:Fr b v) (hx:Ext a b):Fr a v:=fun k e=>Nat.le_trans hx.size (h k e)
theorem Fr.at {w:World} {g n cap:Nat} (h:w.heap.size≤g):Fr w (.slice (some ⟨g,0,none⟩) n cap):=fun k e=>by cases e;exact h
theorem Nt.lit (w:World) (xs:List Nat) (e:TypeId) (hl:Lim B64 xs) (hx:xs.length≤maxLen):
  Nt (w.alloc (.cells (xs.map U).toArray e)) (.slice (some ⟨w.heap.size,0,none⟩) xs.length xs.length) xs:=by
 refine⟨_,w.heap.size,0,_,rfl,⟨.inl rfl,Nat.le_refl _,hx,fun i hi=>?_⟩,hl⟩
 rw[Nat.zero_add,World.cell?_alloc_at _ _ _ _ rfl]
 simp[List.getElem?_eq_getElem hi,lg_eq hi,U]
theorem Nt.lit1 (w:World) (x:Nat) (e:TypeId) (hx:x < B64):
  Nt (w.alloc (.cells #[.int .u64 (x:Int)] e)) (.slice (some ⟨w.heap.size,0,none⟩) 1 1) [x]:=Nt.lit w [x] e (Lim.cons hx (Lim.nil _)) (by simp[maxLen])
/-! ### rows of limbs that the call itself owns -/
def Own (w:World) (base e:Nat) (v:Value) (xs:List Nat):Prop:=w.ownsRow base e 1 v xs.length (xs.map U)
theorem Own.nil (w:World) (base e:Nat):Own w base e (.slice none 0 0) []:=World.ownsRow_nil w base e 1
theorem Own.nt {w:World} {base e:Nat} {v:Value} {xs:List Nat} (h:Own w base e v xs) (hl:Lim B64 xs):Nt w v xs:=Nt.of_own h hl
theorem Own.alloc {w:World} {base e:Nat} {v:Value} {xs:List Nat} (h:Own w base e v xs) (o:Obj):Own (w.alloc o) base e v xs:=World.ownsRow.alloc h o
theorem Own.kept {w w':World} {base e:Nat} {v:Value} {xs:List Nat} {row:Option Nat} (h:Own w base e v xs) (hg:w.grownBy w' row) (hne:v.ownBlock=none∨v.ownBlock≠row):Own w' base e v xs:=World.ownsRow.kept h hg hne
theorem Own.lt {w:World} {base e:Nat} {v:Value} {xs:List Nat} (h:Own w base e v xs):∀ k,v.ownBlock=some k→base≤k∧k < w.heap.size:=World.ownsRow.lt h
theorem Own.ext {w w':World} {base e:Nat} {v:Value} {xs:List Nat} (h:Own w base e v xs) (hx:Ext w w'):Own w' base e v xs:=by
 refine⟨h.1,?_⟩
 rcases h.2 with hn | ⟨g,cap,cur,rfl,hb,hg,rest⟩
 ·exact .inl hn
 ·exact .inr ⟨g,cap,cur,rfl,hb,(Below.block hx g (Array.getElem?_eq_some_iff.1 hg).1).trans hg,rest⟩
theorem Own.mono {w:World} {base base' e:Nat} {v:Value} {xs:List Nat} (h:Own w base e v xs) (hb:base'≤base):Own w base' e v xs:=by
 refine⟨h.1,?_⟩
 rcases h.2 with hn | ⟨g,cap,cur,rfl,hg,rest⟩
 ·exact .inl hn
 ·exact .inr ⟨g,cap,cur,rfl,Nat.le_trans hb hg,rest⟩
theorem Own.lit (w:World) (xs:List Nat) (base e:Nat) (hb:base≤w.heap.size) (hx:xs.length≤maxLen):
  Own (w.alloc (.cells (xs.map U).toArray e)) base e (.slice (some ⟨w.heap.size,0,none⟩) xs.length xs.length) xs:=by
 have:=World.ownsRow_lit (base:=base) (e:=e) (size:=1) w (xs.map U).toArray xs.length hb hx (by simp)
 simpa [Own] using this
theorem Own.fr {w w':World} {e:Nat} {v:Value} {xs:List Nat} (h:Own w' w.heap.size e v xs):Fr w v:=fun k hk=>(h.lt k hk).1
theorem Own.some {w:World} {base e:Nat} {v:Value} {xs:List Nat} (h:Own w base e v xs) (hn:0 < xs.length):∃ g cap,v=.slice (some ⟨g,0,none⟩) xs.length cap∧base≤g∧xs.length≤cap∧cap≤maxLen:=by
 rcases h.2 with ⟨_,h0⟩ | ⟨g,cap,cur,rfl,hb,_,hc,hm,_⟩
 ·omega
 ·exact⟨g,cap,rfl,hb,hc,hm⟩
theorem Own.slice {w:World} {base e:Nat} {v:Value} {xs:List Nat} (h:Own w base e v xs):∃ a cap,v=.slice a xs.length cap:=by
 rcases h.2 with ⟨rfl,h0⟩ | ⟨g,cap,cur,rfl,_⟩
 ·exact⟨none,0,by rw[h0]⟩
 ·exact⟨_,cap,rfl⟩
theorem Own.cellAt {w:World} {base e g cap n:Nat} {xs:List Nat} (h:Own w base e (.slice (.some ⟨g,0,none⟩) n cap) xs) {i:Nat} (hi:i < xs.length):w.cell? ⟨g,i,none⟩=.some (.int .u64 ((lg xs i:Nat):Int)):=by
 rcases h.2 with ⟨h',_⟩ | ⟨g',cap',cur,h',hr⟩
 ·cases h'
 ·cases h'
  have hown:w.ownsRow base e 1 (.slice (.some ⟨g,0,none⟩) xs.length cap) xs.length (xs.map U):=⟨by simp,.inr ⟨g,cap,cur,rfl,hr⟩⟩
  rw[hown.cellAt i (by omega),List.getElem?_map,List.getElem?_eq_getElem hi]
  show Option.some (Value.int .u64 ((xs[i]:Nat):Int))=.some (Value.int .u64 ((lg xs i:Nat):Int))
  rw[lg_eq hi]
theorem Own.frozenAt {w:World} {base e g cap n:Nat} {xs:List Nat} (h:Own w base e (.slice (.some ⟨g,0,none⟩) n cap) xs) (i:Nat):w.frozen? ⟨g,i,none⟩=false:=by
 rcases h.2 with ⟨h',_⟩ | ⟨g',cap',cur,h',hr⟩
 ·cases h'
 ·cases h'
  have hown:w.ownsRow base e 1 (.slice (.some ⟨g,0,none⟩) xs.length cap) xs.length (xs.map U):=⟨by simp,.inr ⟨g,cap,cur,rfl,hr⟩⟩
  exact hown.frozenAt i
theorem Own.stored {w:World} {base e g cap n:Nat} {xs:List Nat} (h:Own w base e (.slice (.some ⟨g,0,none⟩) n cap) xs) (j y:Nat) {Y:Int} (hy:Y=(y:Int)):
  Own (w.setCell ⟨g,j,none⟩ (.int .u64 Y)) base e (.slice (.some ⟨g,0,none⟩) n cap) (xs.set j y):=by
 subst hy
 rcases h.2 with ⟨h',_⟩ | ⟨g',cap',cur,h',hr⟩
 ·cases h'
 ·cases h'
  have hown:w.ownsRow base e 1 (.slice (.some ⟨g,0,none⟩) xs.length cap) xs.length (xs.map U):=⟨by simp,.inr ⟨g,cap,cur,rfl,hr⟩⟩
  have h2:=(hown.stored j (.int .u64 (y:Int))).1
  unfold Own
  rw[List.length_set,List.map_set]
  exact h2
theorem Own.head {w:World} {base e g cap n:Nat} {xs:List Nat} (h:Own w base e (.slice (.some ⟨g,0,none⟩) n cap) xs):base≤g∧g < w.heap.size:=h.lt g rfl
theorem Nt.set_other {w:World} {v:Value} {xs:List Nat} (h:Nt w v xs) {p:Addr} (hne:v.ownBlock≠.some p.block) (u:Value):Nt (w.setCell p u) v xs:=by
 obtain⟨a,b,o,cap,rfl,hs,hl⟩:=h
 refine⟨a,b,o,cap,rfl,⟨hs.1,hs.2.1,hs.2.2.1,fun i hi=>?_⟩,hl⟩
 obtain rfl:=hs.addr (by omega)
 rw[World.cell?_of_block (w:=w) (Below.heap_setCell w p u b (fun e=>hne (by simp[Value.ownBlock,e])))]
 exact hs.cell hi
theorem Nw.set_other {w:World} {v:Value} {N:Nat} (h:Nw w v N) {p:Addr} (hne:v.ownBlock≠.some p.block) (u:Value):Nw (w.setCell p u) v N:=
 let ⟨xs,h1,h2⟩:=h;⟨xs,h1.set_other hne u,h2⟩
theorem Fr.ne {w:World} {v:Value} (h:Fr w v) {g:Nat} (hg:g < w.heap.size):v.ownBlock≠.some g:=fun e=>by have:=h g e;omega
def InfoU (P:Program) (e:TypeId):Prop:=(P.info? e).map (fun i=>(i.zero,i.size,i.bytes))=some (some (.int .u64 0),1,8)
theorem wrap_u64 (x:Nat) (h:x < B64):IntKind.u64.wrap (x:Int)=(x:Int):=by
 rw[IntKind.wrap_u64];rw[B64_eq]at h;omega
theorem wadd (x y:Nat) (h:x+y < B64):IntKind.u64.wrap ((x:Int)+(y:Int))=((x+y:Nat):Int):=by
 rw[← Int.natCast_add,wrap_u64 _ h]
theorem wmul (x y:Nat) (h:x*y < B64):IntKind.u64.wrap ((x:Int)*(y:Int))=((x*y:Nat):Int):=by
 rw[← Int.natCast_mul,wrap_u64 _ h]
theorem wmul32 (x:Nat) (h:x*B32 < B64):IntKind.u64.wrap ((x:Int)*4294967296)=((x*B32:Nat):Int):=wmul x B32 h
theorem w_shl (x b:Nat):IntKind.u64.wrap ((x:Int)*2^b)=((x*2^b % B64:Nat):Int):=by
 rw[IntKind.wrap_u64]
 have e:(x:Int)*2^b=((x*2^b:Nat):Int):=by rw[Int.natCast_mul,Int.natCast_pow];rfl
 rw[e];rfl
theorem w_shl_or {x c b:Nat} (hc:c < 2^b) (hb:b≤64) (hs:x*2^b % B64=(x % 2^(64 - b))*2^b):
  bits .or .u64 (IntKind.u64.wrap ((x:Int)*2^b)) (c:Int)=((x*2^b % B64+c:Nat):Int):=by
 have h1:x*2^b % B64 < B64:=Nat.mod_lt _ B64_pos
 have h2:c < B64:=Nat.lt_of_lt_of_le hc (by rw[B64_two];exact Nat.pow_le_pow_right (by omega) hb)
 rw[w_shl,bits_or_u64_nat _ _ (by rw[B64_eq]at h1;exact h1) (by rw[B64_eq]at h2;exact h2),hs]
 have:=Nat.shiftLeft_add_eq_or_of_lt hc (x % 2^(64 - b))
 rw[Nat.shiftLeft_eq]at this
 rw[this]
theorem w_shr (x b:Nat):(x:Int) / 2^b=((x / 2^b:Nat):Int):=by
 rw[Int.natCast_ediv,Int.natCast_pow];rfl
theorem tmod32 (x:Nat):((x:Int)).tmod 4294967296=((x % B32:Nat):Int):=by
 rw[Int.tmod_eq_emod_of_nonneg (by omega)];rfl
theorem div32 (x:Nat):((x:Int)) / 4294967296=((x / B32:Nat):Int):=rfl
theorem wdiv32 (x:Nat) (h:x < B64):IntKind.u64.wrap ((x:Int) / 4294967296)=((x / B32:Nat):Int):=by
 rw[div32,wrap_u64 _ (Nat.lt_of_le_of_lt (Nat.div_le_self _ _) h)]
theorem U_one (xs:List Nat):∀ u ∈ xs.map U,u.oneCell'=true:=by
 intro u hu
 obtain⟨_,_,rfl⟩:=List.mem_map.1 hu
 rfl
section
variable {P:Program} {t e:TypeId} (ht:P.underlying t=.some (.slice e)) (hi:InfoU P e)
include ht hi
theorem append_one {w:World} {ops:Array Oper} {rest:List Oper} {o:Oper} {a:Act} {Q:Exit→Act→World→Prop} (hgd:o.guard=none) (s x:Operand)
  (ho:o.op=.call { callee:=.builtin .append,args:=#[s,x],argTypes:=#[t,t] }) (base:Nat) (v:Value) (xs:List Nat) (y:Nat) (Y:Int)
  (hs:a.eval s=v) (hx:a.eval x=.slice (.some ⟨w.heap.size,0,none⟩) 1 1) (hown:Own w base e v xs) (hy:Y=(y:Int)) (hlen:xs.length≤1099511627776) (hb:base≤w.heap.size)
  (h:∀ v' w',Own w' base e v' (xs++[y])→(w.alloc (.cells #[.int .u64 Y] e)).grownBy w' v.ownBlock→wpList P ops Q rest (a.put o.dst v') w'):
  wpList P ops Q (o :: rest) a (w.alloc (.cells #[.int .u64 Y] e)):=by
 obtain⟨i0,h1,h2,h3,h4⟩:=info_parts hi
 subst hy
 refine wpList_append_own _ hgd s x t ho base e i0 (.int .u64 0) 1 8 ht h1 h2 h3 h4 rfl (by decide) v xs.length (xs.map U) hs (World.ownsRow.alloc hown _) ⟨w.heap.size,0,none⟩ 1 1 [.int .u64 (y:Int)] hx rfl ?_ ?_ (by simp[maxLen];omega) (by omega) (by simp;omega) ?_
 ·intro j u hj
  match j,hj with
  | 0,hj=>simp at hj;subst hj;simp[Addr.add]
 ·intro u hu;simp at hu;subst hu;rfl
 ·intro v' w' ho' hg' _
  refine h v' w' ?_ hg'
  have:(xs.map U++[.int .u64 (y:Int)])=(xs++[y]).map U:=by simp[U]
  unfold Own
  rw[← this,List.length_append]
  exact ho'
theorem step_new {w:World} {ops:Array Oper} {o:Oper} {a:Act} {K:Act→World→Prop} {Q:Exit→Act→World→Prop} {E:Prop} (hgd:o.guard=none) (s x:Operand)
  (ho:o.op=.call { callee:=.builtin .append,args:=#[s,x],argTypes:=#[t,t] }) (base:Nat) (v:Value) (xs ys:List Nat) (m g:Nat) (C:Array Value)
  (hs:a.eval s=v) (hx:a.eval x=.slice (.some ⟨g,0,none⟩) m m) (hown:Own w base e v xs) (hblk:w.heap[g]? = .some (.cells C e)) (hm:m=ys.length) (hm0:0 < m) (hC:C.toList=ys.map U) (hlen:xs.length+ys.length≤1099511627776) (hb:base≤w.heap.size)
  (h:∀ g cap w',Own w' base e (.slice (.some ⟨g,0,none⟩) (xs.length+m) cap) (xs++ys)→w.grownBy w' v.ownBlock→(v.ownBlock=.some g∨g=w.heap.size)→g < w'.heap.size→K (a.put o.dst (.slice (.some ⟨g,0,none⟩) (xs.length+m) cap)) w'):
  if Region.wanted o (yielded ops a.tmps)=true then Oper.wp P o a w K Q else E:=by
 obtain⟨i0,h1,h2,h3,h4⟩:=info_parts hi
 subst hm
 refine step_append_lies _ hgd s x t ho base e i0 (.int .u64 0) 1 8 ht h1 h2 h3 h4 rfl (by decide) v xs.length (xs.map U) hs hown ⟨g,0,none⟩ ys.length ys.length (ys.map U) hx (by simp) ?_ (U_one ys) hm0 (by simp[maxLen];omega) (by omega) hb w.heap.size rfl ?_
 ·intro j u hj
  rw[Addr.add_lit,Nat.zero_add,cell_of_row w g j C e (0,0) hblk,← Array.getElem?_toList,hC]
  exact hj
 ·intro g' cap w' ho' hg' hat hlt
  refine h g' cap w' ?_ hg' hat hlt
  unfold Own
  rw[List.map_append,List.length_append]
  exact ho'
theorem make_part {w:World} {ops:Array Oper} {rest:List Oper} {o:Oper} {a:Act} {Q:Exit→Act→World→Prop} (hgd:o.guard=none) (x c:Operand)
  (ho:o.op=.makeSlice t x c) (base l n:Nat) (X C:Int) (hl:a.eval x=.int .i64 X) (hc:a.eval c=.int .i64 C) (hL:X=(l:Int)) (hC:C=(n:Int)) (hln:l≤n) (hn:n≤1099511627776) (hb:base≤w.heap.size)
  (h:∀ w',Own w' base e (.slice (.some ⟨w.heap.size,0,none⟩) l n) (List.replicate l 0)→w.grownBy w' none→wpList P ops Q rest (a.put o.dst (.slice (.some ⟨w.heap.size,0,none⟩) l n)) w'):
  wpList P ops Q (o :: rest) a w:=by
 obtain⟨i0,h1,h2,h3,h4⟩:=info_parts hi
 subst hL
 subst hC
 refine wpList_plain hgd fun K hK'=>?_
 have hr:=run_make (P:=P) w t e i0 (.int .u64 0) ht h1 h2 .i64 .i64 (l:Int) (n:Int) (by omega) (by omega) (by rw[h4];omega) (by omega)
 simp only[Int.toNat_natCast,h3,Nat.mul_one]at hr
 have ho':Own (w.alloc (.cells (madeCells (Value.int .u64 0).cells n) e)) base e (.slice (.some ⟨w.heap.size,0,none⟩) l n) (List.replicate l 0):=by
  refine⟨by simp,.inr ⟨w.heap.size,n,_,by simp,hb,heap_alloc_new w _,by simpa using hln,by simp[maxLen];omega,by rw[size_madeCells,Nat.mul_one],?_⟩⟩
  rw[show (madeCells (Value.int .u64 0).cells n).toList=List.replicate n (U 0) from toList_madeCells_one _ _,List.map_replicate,List.length_replicate,Nat.mul_one,List.take_replicate,Nat.min_eq_left hln]
 unfold Oper.wp
 simp[execOp,ho,hl,hc,hr,Result.andThen]
 exact hK' _ _ (h _ ho' (World.grownBy_alloc w _ none))
theorem make_full {w:World} {ops:Array Oper} {rest:List Oper} {o:Oper} {a:Act} {Q:Exit→Act→World→Prop} (hgd:o.guard=none) (l c:Operand)
  (ho:o.op=.makeSlice t l c) (base n:Nat) (L C:Int) (hl:a.eval l=.int .i64 L) (hc:a.eval c=.int .i64 C) (hL:L=(n:Int)) (hC:C=(n:Int)) (hn:n≤1099511627776) (hb:base≤w.heap.size)
  (h:∀ w',Own w' base e (.slice (.some ⟨w.heap.size,0,none⟩) n n) (List.replicate n 0)→w.grownBy w' none→wpList P ops Q rest (a.put o.dst (.slice (.some ⟨w.heap.size,0,none⟩) n n)) w'):
  wpList P ops Q (o :: rest) a w:=by
 obtain⟨i0,h1,h2,h3,h4⟩:=info_parts hi
 refine wpList_make_full w hgd l c t ho base e i0 (.int .u64 0) 1 ht h1 h2 h3 .i64 .i64 L C n hl hc hL hC (by rw[h4];omega) (by simp[maxLen];omega) hb ?_
 intro w' ho' hg'
 refine h w' ?_ hg'
 unfold Own
 rw[List.length_replicate,List.map_replicate]
 have e1:(madeCells (Value.int .u64 0).cells (n*1)).toList=List.replicate n (U 0):=by
  rw[Nat.mul_one];exact toList_madeCells_one _ _
 rw[← e1]
 exact ho'
theorem append_all {w:World} {ops:Array Oper} {rest:List Oper} {o:Oper} {a:Act} {Q:Exit→Act→World→Prop} (hgd:o.guard=none) (s x:Operand)
  (ho:o.op=.call { callee:=.builtin .append,args:=#[s,x],argTypes:=#[t,t] }) (base:Nat) (v:Value) (xs ys:List Nat) (ao:Option Addr) (b off c m:Nat)
  (hs:a.eval s=v) (hx:a.eval x=.slice ao m c) (hm:m=ys.length) (hown:Own w base e v xs) (hsrc:Sl w ao b off m c (fun i=>.int .u64 ((lg ys i:Nat):Int))) (hlen:xs.length+ys.length≤1099511627776) (hb:base≤w.heap.size)
  (h:∀ v' w',Own w' base e v' (xs++ys)→w.grownBy w' v.ownBlock→wpList P ops Q rest (a.put o.dst v') w'):
  wpList P ops Q (o :: rest) a w:=by
 obtain⟨i0,h1,h2,h3,h4⟩:=info_parts hi
 subst hm
 rcases hsrc.1 with rfl | ⟨rfl,h0,hc0⟩
 ·refine wpList_append_own _ hgd s x t ho base e i0 (.int .u64 0) 1 8 ht h1 h2 h3 h4 rfl (by decide) v xs.length (xs.map U) hs hown ⟨b,off,none⟩ ys.length c (ys.map U) hx (by simp) ?_ (U_one ys) (by simp[maxLen];omega) (by omega) hb ?_
  ·intro j u hj
   have hlt:j < ys.length:=by have:=(List.getElem?_eq_some_iff.1 hj).1;simpa using this
   rw[List.getElem?_map,List.getElem?_eq_getElem hlt]at hj
   simp only[Option.map_some,Option.some.injEq]at hj
   subst hj
   rw[Addr.add_lit,hsrc.cell hlt,lg_eq hlt]
   rfl
  ·intro v' w' ho' hg' _
   refine h v' w' ?_ hg'
   unfold Own
   rw[List.map_append,List.length_append]
   exact ho'
 ·have hy:ys=[]:=List.eq_nil_of_length_eq_zero h0
  subst hy
  subst hc0
  refine wpList_append_own_none hgd s x t ho base e i0 1 ht h1 v xs.length (xs.map U) hs hown hx ?_
  exact h v w (by simpa using hown) (World.grownBy.refl _ _)
end
end Go.Rt
namespace Go.Rt
open Go.RowKit Go.Shelf
def roundQ (B:Nat) (I:Nat→World→Prop) (Ix:Code→Nat→World→Prop) (k:Nat) (W:World):Exit→Act→World→Prop
 | .normal,_,W'=>KeepsFrom B W W'∧I (k+1) W'
 | .ret,_,W'=>KeepsFrom B W W'∧Ix .ret k W'
 | .exit id,_,W'=>KeepsFrom B W W'∧Ix (.exit id) k W'
 | .goto t,_,W'=>KeepsFrom B W W'∧Ix (.goto t) k W'
 | .panic _,_,_=>False
 | .outgrown,_,_=>False
def Turns (B:Nat) (J:World→Prop):Prop:=∀ (W:World) (l:Nat) (o o':Obj),B≤l→W.heap[l]? = some o→o.isCells=false→o'.isCells=false→J W→J (W.putObj l o')
def Iter (P:Program) (gf:Nat) (lb:Array Value) (n:Nat) (vals:Nat→Array Value) (can:Nat→World→Prop):Prop:=
 ∀ (l:Nat) (J Jx:Nat→World→Prop) (W:World),(∀ k W,k≤n→J k W→can k W)→(∀ k W o,J k W→J k (W.alloc o))→(∀ k W,J k W→J k W.drew) →
  (∀ k W1,k < n→J k W1→YieldAt Fence.wide 8 P l (vals k) W1 fun e W'=>(e=.returned (.bool true)∧J (k+1) W')∨(e=.returned (.bool false)∧Jx k W')) →
  J 0 W →
  CallsIn Fence.wide 9 P gf (#[.func (.yield l) #[] #[]]++lb) W fun e W'=>(∃ v,e=.returned v)∧(J n W'∨∃ k,k < n∧Jx k W')
def roundThen (P:Program) (l B:Nat) (I:Nat→World→Prop) (Ix:Code→Nat→World→Prop) (k:Nat) (body:Code) (W:World):Act→World→Prop:=
 fun a' W'=>W=W'∧∀ W2,I k W2→body.wpIn (Fence.wide.inRound l) 8 P (roundQ B I Ix k W2) a' W2
theorem roundThen.mk {P:Program} {l B:Nat} {I:Nat→World→Prop} {Ix:Code→Nat→World→Prop} {k:Nat} {body:Code} {W:World} {a':Act}
  (h:∀ W2,I k W2→body.wpIn (Fence.wide.inRound l) 8 P (roundQ B I Ix k W2) a' W2):roundThen P l B I Ix k body W a' W:=⟨rfl,h⟩
theorem wpIn_range {P:Program} {g:Operand} {ps:Array Tmp} {assign body:Code} {Q:Exit→Act→World→Prop} {a:Act} {w:World}
  {gf:Nat} {lb:Array Value} (hg:a.eval g=.func (.func gf) #[] lb) (eg:∀ args w,(callFunc gf args).run P w=.ok (.enter gf args) w)
  {n:Nat} {vals:Nat→Array Value} {can:Nat→World→Prop} (hit:Iter P gf lb n vals can) (hps:∀ k,(vals k).size=ps.size)
  (I:Nat→World→Prop) (Ix:Code→Nat→World→Prop) (hI:∀ k,Turns w.heap.size (I k)) (hIx:∀ c k,Turns w.heap.size (Ix c k)) (hIa:∀ k W o,I k W→I k (W.alloc o)) (hId:∀ k W,I k W→I k W.drew) (h0:I 0 w)
  (hcan:∀ k W,k≤n→I k W→can k W)
  (hround:∀ (l k:Nat) (W:World),k < n→I k W→assign.wpIn (Fence.wide.inRound l) 8 P
   (Exit.then (roundThen P l w.heap.size I Ix k body W) (fun _ _ _=>False))
   { tmps:=(ps.zip (vals k)).foldl (fun t (p,v)=>t.setIfInBounds p v) a.tmps,defers:=[] } W)
  (hdone:∀ (D:Nat) (W:World),w.heap.size≤D→I n W→W.heap[D]? = some (.deferred (some []))→Q .normal { a with defers:={ target:=.collected D,args:=#[] } :: a.defers } W)
  (hstop:∀ (D:Nat) (c:Code) (k:Nat) (W:World),w.heap.size≤D→k < n→Ix c k W→W.heap[D]? = some (.deferred (some []))→c.wpIn Fence.wide 10 P Q { a with defers:={ target:=.collected D,args:=#[] } :: a.defers } W):
  (Code.rangeFunc g ps assign body).wpIn Fence.wide 10 P Q a w:=by
 refine wpIn_rangeFunc ?_
 intro fn hfn
 obtain⟨rec,hrec⟩:∃ rec:LoopState→Option Code→Loop,rec=fun st pe=>{ state:=st,pending:=pe,fn,tmps:=a.tmps,params:=ps,assign,body,defers:=w.heap.size }:=⟨_,rfl⟩
 obtain⟨W1,hW1⟩:∃ W1,(w.alloc (.deferred (some []))).alloc (.loop (rec .ready none))=W1:=⟨_,rfl⟩
 have hL1:W1.heap[w.heap.size+1]? = some (.loop (rec .ready none)):=by
  rw[← hW1];have:=World.alloc_heap_new (w.alloc (.deferred (some []))) (.loop (rec .ready none));rwa [World.size_alloc]at this
 have hK1:W1.heap[w.heap.size]? = some (.deferred (some [])):=by
  rw[← hW1];exact(Below.heap_alloc _ _ _ (by simp)).trans (World.alloc_heap_new w _)
 have hI1:I 0 W1:=by rw[← hW1];exact hIa _ _ _ (hIa _ _ _ h0)
 have old:∀ (W:World) (i:Nat) (o o':Obj),W.heap[i]? = some o→(W.alloc o').heap[i]? = some o:=fun W i o o' h=>
  (Below.heap_alloc _ _ _ (Array.getElem?_eq_some_iff.1 h).1).trans h
 refine⟨w.heap.size+1,[{ target:=.collected w.heap.size,args:=#[] }],W1,{ target:=.fn (.func gf) lb,args:=#[.func (.yield (w.heap.size+1)) #[] #[]] },W1,gf,
  #[.func (.yield (w.heap.size+1)) #[] #[]]++lb,W1,?_,?_,?_,?_,fun _=>by omega,?_⟩
 ·rw[← hW1,hrec];exact run_enterLoop_outer _ _ _ _ _
 ·simp only[resolve,hg]
  simp[go_sem]
 ·intro f' _;exact trivial
 ·simp[invoke,go_sem,eg]
 ·refine(hit (w.heap.size+1)
   (fun k W=>I k W∧W.heap[w.heap.size+1]? = some (.loop (rec .ready none))∧W.heap[w.heap.size]? = some (.deferred (some [])))
   (fun k W=>∃ c,Ix c k W∧W.heap[w.heap.size+1]? = some (.loop (rec .done (some c)))∧W.heap[w.heap.size]? = some (.deferred (some [])))
   W1 (fun k W hk h=>hcan k W hk h.1) (fun k W o h=>⟨hIa k W o h.1,old _ _ _ _ h.2.1,old _ _ _ _ h.2.2⟩) (fun k W h=>⟨hId k W h.1,h.2.1,h.2.2⟩) ?_ ⟨hI1,hL1,hK1⟩).mono ?_
  ·rintro k W hkn ⟨hi,hl,hk⟩
   have hlt:w.heap.size+1 < W.heap.size:=(Array.getElem?_eq_some_iff.1 hl).1
   have hy:=run_yield (P:=P) (args:=vals k) hl (by rw[hrec];exact hps k)
   rw[hrec]at hy
   refine⟨fn,_,assign,body,hy,roundIn_of_wpIn hfn (wpIn_mono (hround (w.heap.size+1) k W hkn hi) ?_)⟩
   clear hy
   rintro e a' W' hq
   cases e with
   | exit id=>exact hq.elim
   | goto t=>exact hq.elim
   | ret=>exact hq.elim
   | panic chain=>exact hq.elim
   | outgrown=>exact hq.elim
   | normal=>
   obtain⟨rfl,hb⟩:=hq
   refine⟨_,run_beginRound hl (by rw[hrec]),?_⟩
   have hl2:(W.putObj (w.heap.size+1) (.loop { rec .ready none with state:=.busy })).heap[w.heap.size+1]? = some (.loop { rec .ready none with state:=.busy }):=World.putObj_heap_same hlt
   have hk2:(W.putObj (w.heap.size+1) (.loop { rec .ready none with state:=.busy })).heap[w.heap.size]? = some (.deferred (some [])):=(World.putObj_heap_other (by omega)).trans hk
   refine wpIn_mono (hb _ (hI k _ _ _ _ (by omega) hl rfl rfl hi)) ?_
   have fin:∀ (jump:Option Code) (W3:World),KeepsFrom w.heap.size (W.putObj (w.heap.size+1) (.loop { rec .ready none with state:=.busy })) W3 →
     (Instr.endRound (w.heap.size+1) jump).run P W3=.ok (.bool jump.isNone) (W3.putObj (w.heap.size+1) (.loop (rec (if jump.isNone then .ready else .done) jump))) ∧
     W3.heap[w.heap.size+1]? = some (.loop { rec .ready none with state:=.busy }) ∧
     (W3.putObj (w.heap.size+1) (.loop (rec (if jump.isNone then .ready else .done) jump))).heap[w.heap.size+1]? = some (.loop (rec (if jump.isNone then .ready else .done) jump)) ∧
     (W3.putObj (w.heap.size+1) (.loop (rec (if jump.isNone then .ready else .done) jump))).heap[w.heap.size]? = some (.deferred (some [])):=fun jump W3 hk3=>by
    have hl3:=hk3.same _ _ (by omega) hl2 rfl
    have:=run_endRound (P:=P) jump hl3
    rw[hrec]at this ⊢
    exact⟨this,by rw[hrec]at hl3;exact hl3,World.putObj_heap_same (Array.getElem?_eq_some_iff.1 hl3).1,(World.putObj_heap_other (by omega)).trans (hk3.same _ _ (Nat.le_refl _) hk2 rfl)⟩
   rintro e a3 W3 hp
   cases e with
   | normal=>
    obtain⟨hk3,hi3⟩:=hp
    obtain⟨hr,hl3,hl4,hk4⟩:=fin none W3 hk3
    exact⟨_,_,hr,.inl ⟨rfl,hI _ _ _ _ _ (by omega) hl3 rfl rfl hi3,hl4,hk4⟩⟩
   | ret=>
    obtain⟨hk3,hi3⟩:=hp
    obtain⟨hr,hl3,hl4,hk4⟩:=fin (some .ret) W3 hk3
    exact⟨_,_,hr,.inr ⟨rfl,.ret,hIx _ _ _ _ _ _ (by omega) hl3 rfl rfl hi3,hl4,hk4⟩⟩
   | exit id=>
    obtain⟨hk3,hi3⟩:=hp
    obtain⟨hr,hl3,hl4,hk4⟩:=fin (some (.exit id)) W3 hk3
    exact⟨_,_,hr,.inr ⟨rfl,.exit id,hIx _ _ _ _ _ _ (by omega) hl3 rfl rfl hi3,hl4,hk4⟩⟩
   | goto t=>
    obtain⟨hk3,hi3⟩:=hp
    obtain⟨hr,hl3,hl4,hk4⟩:=fin (some (.goto t)) W3 hk3
    exact⟨_,_,hr,.inr ⟨rfl,.goto t,hIx _ _ _ _ _ _ (by omega) hl3 rfl rfl hi3,hl4,hk4⟩⟩
   | panic ch=>exact hp.elim
   | outgrown=>exact hp.elim
  ·rintro e W2 ⟨⟨v,rfl⟩,(⟨hi,hl,hk⟩ | ⟨k,hkn,c,hi,hl,hk⟩)⟩
   ·exact⟨none,_,by have:=run_endLoop (P:=P) hl (by rw[hrec];simp);rw[hrec]at this;exact this,hdone _ _ (Nat.le_refl _) (hI _ _ _ _ _ (by omega) hl rfl rfl hi) ((World.putObj_heap_other (by omega)).trans hk)⟩
   ·exact⟨some c,_,by have:=run_endLoop (P:=P) hl (by rw[hrec];simp);rw[hrec]at this;exact this,hstop _ c k _ (Nat.le_refl _) hkn (hIx _ _ _ _ _ _ (by omega) hl rfl rfl hi) ((World.putObj_heap_other (by omega)).trans hk)⟩
/-! what a turn of book-keeping leaves -/
theorem Turns.and {B:Nat} {J K:World→Prop} (h:Turns B J) (k:Turns B K):Turns B (fun W=>J W∧K W):=fun W l o o' hl ho hc hc' hj=>⟨h W l o o' hl ho hc hc' hj.1,k W l o o' hl ho hc hc' hj.2⟩
theorem Turns.pure (B:Nat) (p:Prop):Turns B (fun _=>p):=fun _ _ _ _ _ _ _ _ h=>h
theorem Turns.ex {B:Nat} {α:Type} {J:α→World→Prop} (h:∀ x,Turns B (J x)):Turns B (fun W=>∃ x,J x W):=fun W l o o' hl ho hc hc' ⟨x,hx⟩=>⟨x,h x W l o o' hl ho hc hc' hx⟩
theorem Ext.putObj {a b:World} (h:Ext a b) {l:Nat} (hl:a.heap.size≤l) (o:Obj):Ext a (b.putObj l o):=
 Below.grown h (grownBy_putObj' b l o) h.size (fun k e=>by cases e;exact hl)
theorem Turns.ext {B:Nat} {w:World} (h:w.heap.size≤B):Turns B (fun W=>Ext w W):=fun _ _ _ _ hl _ _ _ hj=>hj.putObj (by omega) _
theorem putObj_cell {W:World} {l:Nat} {o o':Obj} (ho:W.heap[l]? = some o) (hc:o.isCells=false) {p:Addr} {v:Value} (h:W.cell? p=some v):(W.putObj l o').cell? p=some v:=by
 obtain⟨q,hq,hq'⟩:=cells_of_cell h
 have:p.block≠l:=fun e=>by rw[e,ho]at hq;cases hq;rw[hc]at hq';cases hq'
 exact(World.cell?_of_block (World.putObj_heap_other this)).trans h
theorem Turns.cell (B:Nat) (p:Addr) (v:Value):Turns B (fun W=>W.cell? p=some v):=fun _ _ _ _ _ ho hc _ h=>putObj_cell ho hc h
theorem Turns.row {B base e size:Nat} {v:Value} {n:Nat} {xs:List Value}:Turns B (fun W=>W.ownsRow base e size v n xs):=fun W l o o' _ ho hc _ h=>by
 refine h.kept (grownBy_putObj' W l o') ?_
 rcases h.2 with ⟨rfl,_⟩ | ⟨g,cap,cur,rfl,_,hg,_⟩
 ·exact .inl rfl
 ·right;intro e
  simp[Value.ownBlock]at e
  subst e
  rw[ho]at hg;cases hg;cases hc
theorem Turns.own {B base e:Nat} {v:Value} {xs:List Nat}:Turns B (fun W=>Own W base e v xs):=Turns.row
theorem Turns.box (B b:Nat) (t:TypeId) (v:Value):Turns B (fun W=>Boxed W b t v):=fun W l o o' _ ho hc _ h=>
 (World.putObj_heap_other (fun e=>by subst e;rw[show W.heap[b]? = _ from h]at ho;cases ho;cases hc)).trans h
theorem box_ext {W W':World} (h:Ext W W') {B:Nat} {t:TypeId} {v:Value} (k:Boxed W B t v):Boxed W' B t v:=(Below.block h B k.lt).trans k
theorem post_mark {n:Nat} {P:Program} {fn:Func} {R:Ending→World→Prop} {D:Nat} {tmps:Array Value} {W:World} {v:Value} (hK:W.heap[D]? = some (.deferred (some [])))
  (hr:(results fn tmps).run P (W.putObj D (.deferred none))=.ok v (W.putObj D (.deferred none))) (hR:R (.returned v) (W.putObj D (.deferred none))):
  bodyPostM Fence.wide n P fn R .ret { tmps:=tmps,defers:=[{ target:=.collected D,args:=#[] }] } W:=
 ⟨by simp,.inl ⟨_,_,rfl,run_takeDeferred hK,⟨v,hr,hR⟩⟩⟩
theorem box_putObj {W:World} {D:Nat} {o o':Obj} (hD:W.heap[D]? = some o) (hc:o.isCells=false) {B:Nat} {t:TypeId} {v:Value} (h:Boxed W B t v):Boxed (W.putObj D o') B t v:=
 (World.putObj_heap_other (fun e=>by subst e;rw[show W.heap[B]? = _ from h]at hD;cases hD;cases hc)).trans h
theorem keep_setCell {W:World} {D:Nat} {o:Obj} (h:W.heap[D]? = some o) (hc:o.isCells=false) (p:Addr) (v:Value):(W.setCell p v).heap[D]? = some o:=(KeepsOthers.setCell W p v).same D o h hc
theorem KeepsFrom.alloc1 (B:Nat) (W:World) (o:Obj):KeepsFrom B W (W.alloc o):=(KeepsOthers.alloc W o).from B
theorem KeepsFrom.setCell1 (B:Nat) (W:World) (p:Addr) (v:Value):KeepsFrom B W (W.setCell p v):=(KeepsOthers.setCell W p v).from B
theorem KeepsFrom.of_ext {W W':World} (h:Ext W W') (B:Nat):KeepsFrom B W W':=⟨h.size,fun k _ _ hk _=>(Below.block h k (Array.getElem?_eq_some_iff.1 hk).1).trans hk⟩
theorem KeepsFrom.grown {B:Nat} {W W':World} {row:Option Nat} (hg:W.grownBy W' row) (hr:∀ k,row=some k→∃ o:Obj,W.heap[k]? = some o∧o.isCells=true):KeepsFrom B W W':=
 (KeepsOthers.of_grownBy hg (fun j o e ho=>by obtain⟨q,hq,hc⟩:=hr j e;rw[hq]at ho;cases ho;exact hc)).from B
end Go.Rt
namespace Go.Rt
open Go.RowKit Go.Shelf Go.Proofs
attribute [local go_sem] Oper.semAt_some
def backVals (n:Nat) (c:Nat→Value) (k:Nat):Array Value:=#[.int .i64 (((n - 1 - k:Nat)):Int),c (n - 1 - k)]
def backCan (B:Nat) (a:Option Addr) (b o n cap:Nat) (c:Nat→Value) (k:Nat) (W:World):Prop:=
  W.cell? ⟨B,0,none⟩=some (.slice a n cap)∧(k < n→a=some ⟨b,o,none⟩∧W.cell? ⟨b,o+(n - 1 - k),none⟩=some (c (n - 1 - k)))
set_option maxHeartbeats 400000 in
theorem Tryz.backward_iter (B:Nat) (a:Option Addr) (b o n cap:Nat) (c:Nat→Value) (hn:n≤cap) (hcap:cap≤9223372036854775807) (hc1:∀ i,(c i).oneCell'=true):
    Iter Tryz.prog 103 #[.pointer (some ⟨B,0,none⟩)] n (backVals n c) (backCan B a b o n cap c):=by
  intro l J Jx W hcan hal hdr hY h0
  have hB0:=(hcan 0 W (by omega) h0).1
  refine callsIn_of_wp Tryz.func103 rfl trivial ?_ rfl
  simp only[Tryz.ntmps103,List.size_toArray,List.length_cons,List.length_nil,Nat.reduceAdd,Nat.reduceSub,Array.replicate_succ,Array.replicate_zero,List.push_toArray,List.append_toArray,List.nil_append,List.cons_append]
  gi_wp2
  gi_loopw [3] (fun i wr=>∃ k:Nat,k≤n∧i=.int .i64 ((n:Int) - 1 - (k:Int))∧J k wr) (fun i _=>(intOf i+1).toNat)
  case atStart=>exact⟨0,Nat.zero_le _,by simp,h0⟩
  case round=>
    obtain⟨k,hk,hi,hJ⟩:=hrel
    obtain⟨hB,hcell⟩:=hcan k wr hk hJ
    by_cases hlt:k < n
    · obtain⟨j,hj⟩:∃ j:Nat,j=n - 1 - k:=⟨_,rfl⟩
      obtain⟨rfl,hc⟩:=hcell hlt
      have ei:((n:Int) - 1 - (k:Int))=(j:Int):=by omega
      rw[ei]at hi
      subst hi
      have hy0:=hY k wr hlt hJ
      rw[backVals,← hj]at hy0
      rw[← hj]at hc
      obtain⟨fn,tmps,assign,body,hy,hR⟩:=hy0
      have hj0:0≤(j:Int):=by omega
      have hjn:j < n:=by omega
      have h1:=hc1 j
      have HJ:=Lib.hid hj;clear hj ei
      clear hcan hal hdr hY h0 hB0
      gi_wp2
      refine hR.mono ?_
      rintro e W3 (⟨rfl,hJ3⟩ | ⟨rfl,hJx3⟩)
      · clear hy hR
        gi_wp2
        go_roundw
        case rel=>
          have hj:=HJ.out
          exact⟨k+1,by omega,congrArg (Value.int .i64) (by omega),hJ3⟩
        case measure=>simp[intOf] <;> omega
      · clear hy hR
        gi_wp2
        refine bodyPost_ret (results_none rfl _ _ _) rfl ?_
        exact⟨⟨_,rfl⟩,.inr ⟨k,hlt,hJx3⟩⟩
    · obtain rfl:k=n:=by omega
      have ei:((k:Int) - 1 - (k:Int)) = -1:=by omega
      rw[ei]at hi
      subst hi
      clear ei hcan hal hY h0 hB0 hcell
      gi_wp2
      go_end0
      exact⟨⟨_,rfl⟩,.inl hJ⟩
theorem Tryz.backward_ok (a:Option Addr) (n cap:Nat) (w:World):Calls Tryz.prog 75 #[.slice a n cap] w fun e w'=>e=.returned (.func (.func 103) #[] #[.pointer (some ⟨w.heap.size,0,none⟩)])∧w.alloc (.cells #[.slice a n cap] 41)=w':=by
  have hmf:∀ (fn:Fn) (first cap:Array Value) (w:World),(Instr.makeFunc fn first cap).run Tryz.prog w=.ok (.func fn first cap) w:=fun _ _ _ _=>rfl
  go_enter Tryz.func75,Tryz.ntmps75
  go_wp2
  go_ret
  exact⟨rfl,rfl⟩
end Go.Rt
namespace Go.Rt
open Go.RowKit Go.Shelf Go.Proofs
attribute [local go_sem] Oper.semAt_some
def cmpI (x y:Int):Int:=if x < y then -1 else if y < x then 1 else 0
theorem cmpI_lt {x y:Int} (h:x < y):cmpI x y = -1:=if_pos h
theorem cmpI_gt {x y:Int} (h:y < x):cmpI x y=1:=by unfold cmpI;rw[if_neg (by omega),if_pos h]
theorem cmpI_eq {x y:Int} (h:x=y):cmpI x y=0:=by unfold cmpI;rw[if_neg (by omega),if_neg (by omega)]
theorem cmpI_bd (x y:Int):-1≤cmpI x y∧cmpI x y≤1:=by unfold cmpI;split <;> (try split) <;> omega
theorem cmpI_zero {x y:Int}:cmpI x y=0↔x=y:=by unfold cmpI;split <;> (try split) <;> omega
theorem cmpI_neg {x y:Int}:cmpI x y < 0↔x < y:=by unfold cmpI;split <;> (try split) <;> omega
set_option maxHeartbeats 400000 in
theorem Tryz.compareI (x y:Int) (w:World):Calls Tryz.prog 99 #[.int .i64 x,.int .i64 y] w fun e w'=>e=.returned (.int .i64 (cmpI x y))∧w=w':=by
  have hx:(x != x)=false:=by simp
  have hy:(y != y)=false:=by simp
  rcases Int.lt_trichotomy x y with h | h | h
  · have H:=Lib.hid (cmpI_lt h)
    go_enter Tryz.func99,Tryz.ntmps99
    go_wp2
    all_goals go_ret
    all_goals exact⟨ret_i H.out.symm,rfl⟩
  · subst h
    have H:=Lib.hid (cmpI_eq (rfl:x=x))
    go_enter Tryz.func99,Tryz.ntmps99
    go_wp2
    all_goals go_ret
    all_goals exact⟨ret_i H.out.symm,rfl⟩
  · have H:=Lib.hid (cmpI_gt h)
    go_enter Tryz.func99,Tryz.ntmps99
    go_wp2
    all_goals go_ret
    all_goals exact⟨ret_i H.out.symm,rfl⟩
set_option maxHeartbeats 400000 in
theorem Tryz.compareU (x y:Int) (w:World):Calls Tryz.prog 100 #[.int .u64 x,.int .u64 y] w fun e w'=>e=.returned (.int .i64 (cmpI x y))∧w=w':=by
  have hx:(x != x)=false:=by simp
  have hy:(y != y)=false:=by simp
  rcases Int.lt_trichotomy x y with h | h | h
  · have H:=Lib.hid (cmpI_lt h)
    go_enter Tryz.func100,Tryz.ntmps100
    go_wp2
    all_goals go_ret
    all_goals exact⟨ret_i H.out.symm,rfl⟩
  · subst h
    have H:=Lib.hid (cmpI_eq (rfl:x=x))
    go_enter Tryz.func100,Tryz.ntmps100
    go_wp2
    all_goals go_ret
    all_goals exact⟨ret_i H.out.symm,rfl⟩
  · have H:=Lib.hid (cmpI_gt h)
    go_enter Tryz.func100,Tryz.ntmps100
    go_wp2
    all_goals go_ret
    all_goals exact⟨ret_i H.out.symm,rfl⟩
end Go.Rt
namespace Go.Rt
open Go.RowKit Go.Shelf Go.Proofs
attribute [local go_sem] Oper.semAt_some
theorem cmpI_nat_lt {a b:Nat} (h:a < b):cmpI (a:Int) (b:Int) = -1:=cmpI_lt (by omega)
theorem cmpI_nat_gt {a b:Nat} (h:b < a):cmpI (a:Int) (b:Int)=1:=cmpI_gt (by omega)
theorem cmpI_nat_eq {a b:Nat} (h:a=b):cmpI (a:Int) (b:Int)=0:=cmpI_eq (by omega)
theorem cmpI_at {xs ys:List Nat} (hx:Lim B64 xs) (hy:Lim B64 ys) (hl:xs.length=ys.length) (k:Nat) (hk:k < xs.length) (hd:xs.drop (k+1)=ys.drop (k+1)) (hne:lg xs k≠lg ys k):
  cmpI (lg xs k) (lg ys k)=cmpI (ev B64 xs) (ev B64 ys):=by
 rcases Nat.lt_or_gt_of_ne hne with h | h
 ·rw[cmpI_nat_lt h,cmpI_nat_lt (ev_lt_of_at hx hl k hk hd h)]
 ·rw[cmpI_nat_gt h,cmpI_nat_gt (ev_lt_of_at hy hl.symm k (by omega) hd.symm h)]
theorem cmpI_len {xs ys:List Nat} (hx:Lim B64 xs) (hy:Lim B64 ys) (nx:Norm xs) (ny:Norm ys) (hne:xs.length≠ys.length):
  cmpI (xs.length:Int) (ys.length:Int)=cmpI (ev B64 xs) (ev B64 ys):=by
 rcases Nat.lt_or_gt_of_ne hne with h | h
 ·rw[cmpI_nat_lt h,cmpI_nat_lt (ev_lt_of_len B64_pos hx ny h)]
 ·rw[cmpI_nat_gt h,cmpI_nat_gt (ev_lt_of_len B64_pos hy nx h)]
def natCmpI (w:World) (tN tI:TypeId) (va vb:Value) (xs ys:List Nat) (k:Nat) (W:World):Prop:=
 Ext w W∧Boxed W w.heap.size tN vb∧Boxed W (w.heap.size+1) tI (.int .i64 0)∧Boxed W (w.heap.size+1+1) tN va∧Hid (xs.drop (xs.length - k)=ys.drop (xs.length - k))
def natCmpX (w:World) (tI:TypeId) (r:Int) (c:Code) (_:Nat) (W:World):Prop:=c=.ret∧Ext w W∧Boxed W (w.heap.size+1) tI (.int .i64 r)
set_option maxHeartbeats 1000000 in
theorem Tryz.natCmp {v1 v2:Value} {N M:Nat} {w:World} (h1:Nw w v1 N) (h2:Nw w v2 M):
  Calls Tryz.prog 71 #[v1,v2] w fun e w'=>e=.returned (.int .i64 (cmpI N M))∧Ext w w':=by
 obtain⟨xs,⟨a1,b1,o1,c1,rfl,hs1,hl1⟩,hn1,rfl⟩:=h1
 obtain⟨ys,⟨a2,b2,o2,c2,rfl,hs2,hl2⟩,hn2,rfl⟩:=h2
 refine(callsIn_wide (n:=10)).1 ?_
 refine callsIn_of_wp_marks Tryz.func71 rfl trivial ?_ rfl
 simp only[Tryz.ntmps71,List.size_toArray,List.length_cons,List.length_nil,Nat.reduceAdd,Nat.reduceSub,Array.replicate_succ,Array.replicate_zero,List.push_toArray,List.append_toArray,List.nil_append,List.cons_append]
 by_cases hlen:xs.length=ys.length
 ·have hz:(cmpI (xs.length:Int) (ys.length:Int) != 0)=false:=by rw[cmpI_nat_eq hlen];rfl
  have HL:=Lib.hid hlen;clear hlen
  gi_wp2_with (first
   | (refine⟨trivial,?_⟩;gi_at_call 99;refine(callsIn_wide.2 (Tryz.compareI _ _ _)).mono ?_;rintro e w' ⟨rfl,rfl⟩)
   | (refine⟨trivial,?_⟩;gi_at_call 75;refine(callsIn_wide.2 (Tryz.backward_ok _ _ _ _)).mono ?_;rintro e w' ⟨rfl,rfl⟩))
  have hx0:Ext w (((w.alloc (.cells #[.slice a2 ys.length c2] 41)).alloc (.cells #[.int .i64 0] 3)).alloc (.cells #[.slice a1 xs.length c1] 41)):=((Ext.alloc1 _ _).alloc _).alloc _
  have q0:=Boxed.new w 41 (.slice a2 ys.length c2)
  have q1:=Boxed.new (w.alloc (.cells #[.slice a2 ys.length c2] 41)) 3 (.int .i64 0)
  have q2:=Boxed.new ((w.alloc (.cells #[.slice a2 ys.length c2] 41)).alloc (.cells #[.int .i64 0] 3)) 41 (.slice a1 xs.length c1)
  replace q0:=(q0.alloc (.cells #[.int .i64 0] 3)).alloc (.cells #[.slice a1 xs.length c1] 41)
  replace q1:=q1.alloc (.cells #[.slice a1 xs.length c1] 41)
  simp only[World.size_alloc]at q1 q2
  have hk1:∀ j,xs.length≤j→xs.drop j=ys.drop j:=fun j hj=>by rw[List.drop_eq_nil_of_le hj,List.drop_eq_nil_of_le (by rw[← HL.out];exact hj)]
  have hlt1:w.heap.size+1+1=w.heap.size+2:=rfl
  refine wpIn_range (gf:=103) (lb:=#[.pointer (some ⟨w.heap.size+1+1,0,none⟩)]) rfl (enters_of Tryz.func103 (by kernel_rfl) rfl)
   (Tryz.backward_iter (w.heap.size+1+1) a1 b1 o1 xs.length c1 (fun i=>.int .u64 ((lg xs i:Nat):Int)) hs1.le hs1.max (fun _=>rfl)) (fun _=>rfl)
   (natCmpI w 41 3 (.slice a1 xs.length c1) (.slice a2 ys.length c2) xs ys) (natCmpX w 3 (cmpI (ev B64 xs) (ev B64 ys)))
   (fun k=>(Turns.ext (by simp;omega)).and ((Turns.box _ _ _ _).and ((Turns.box _ _ _ _).and ((Turns.box _ _ _ _).and (Turns.pure _ _)))))
   (fun c k=>(Turns.pure _ _).and ((Turns.ext (by simp;omega)).and (Turns.box _ _ _ _)))
   (fun k W o h=>⟨h.1.alloc o,h.2.1.alloc o,h.2.2.1.alloc o,h.2.2.2.1.alloc o,h.2.2.2.2⟩) (fun _ _ h=>⟨h.1.drew,h.2⟩)
   ⟨hx0,q0,q1,q2,Lib.hid (hk1 _ (Nat.le_refl _))⟩
   (fun k W hk h=>⟨h.2.2.2.1.cell,fun hlt=>⟨hs1.addr (by omega),(hs1.ext h.1).cell (by omega)⟩⟩)
   ?round ?done ?stop
  case round=>
   intro l k W hk _
   simp only[backVals]
   obtain⟨j,hj⟩:∃ j:Nat,j=xs.length - 1 - k:=⟨_,rfl⟩
   rw[← hj]
   have HJ:=Lib.hid hj;clear hj
   gi_wp2
   refine roundThen.mk ?_
   rintro W2 ⟨hE,p0,p1,p2,hd⟩
   have hj:=HJ.out
   have hjn:j < xs.length:=by omega
   have hc2:W2.cell? ⟨b2,o2+j,none⟩=some (.int .u64 ((lg ys j:Nat):Int)):=(hs2.ext hE).cell (by rw[← HL.out];exact hjn)
   obtain rfl:a2=some ⟨b2,o2,none⟩:=hs2.addr (by rw[← HL.out];omega)
   have hjy:j < ys.length:=by rw[← HL.out];exact hjn
   have hcb:=p0.cell
   have hcr:=p1.cell
   have hfr:=p1.frozen
   clear hj q0 q1 q2 hk1
   by_cases he:lg xs j=lg ys j
   ·have hz2:(cmpI (lg xs j) (lg ys j) != 0)=false:=by rw[he,cmpI_eq rfl];rfl
    have HE:=Lib.hid he;clear he
    gi_wp2_with (refine⟨trivial,?_⟩;gi_at_call 100;refine(CallsIn.inRound l (callsIn_wide.2 (Tryz.compareU _ _ _))).mono ?_;rintro e w' ⟨rfl,rfl⟩)
    refine⟨KeepsFrom.refl _ _,hE,p0,p1,p2,Lib.hid ?_⟩
    have hj:=HJ.out
    have hl:=HL.out
    rw[show xs.length - (k+1)=j from by omega,drop_cons hjn,drop_cons hjy,show j+1=xs.length - k from by omega,hd.out]
    have he:=HE.out
    unfold lg at he
    rw[he]
   ·have hz2:(cmpI (lg xs j) (lg ys j) != 0)=true:=by rw[bne_iff_ne];intro h;rw[cmpI_zero]at h;omega
    have HE:=Lib.hid he;clear he
    gi_wp2_with (refine⟨trivial,?_⟩;gi_at_call 100;refine(CallsIn.inRound l (callsIn_wide.2 (Tryz.compareU _ _ _))).mono ?_;rintro e w' ⟨rfl,rfl⟩)
    refine⟨KeepsFrom.setCell1 _ _ _ _,rfl,hE.setCell (by simp) _,?_⟩
    have hj:=HJ.out
    have hd':=hd.out
    rw[show xs.length - k=j+1 from by omega]at hd'
    rw[← cmpI_at hl1 hl2 HL.out j hjn hd' HE.out]
    exact p1.set _
  case done=>
   rintro D W hD ⟨hE,p0,p1,p2,hd⟩ hK
   have hcr:=p1.cell
   have hfr:=p1.frozen
   gi_wp2
   have hxy:xs=ys:=by
    have h:=hd.out
    simpa using h
   refine post_mark (v:=.int .i64 0) (keep_setCell hK rfl _ _) ?_ ⟨ret_i ?_,(hE.setCell (by simp) _).putObj (by simp at hD;omega) _⟩
   ·have hc5:=(box_putObj (o':=.deferred none) (keep_setCell hK rfl ⟨w.heap.size+1,0,none⟩ (.int .i64 0)) rfl (p1.set (.int .i64 0))).cell
    simp[results,Tryz.results71,go_sem,hc5]
   ·rw[hxy,cmpI_eq rfl]
  case stop=>
   rintro D c k W hD hk ⟨rfl,hE,p1⟩ hK
   gi_wp2
   refine post_mark (v:=.int .i64 (cmpI (ev B64 xs) (ev B64 ys))) hK ?_ ⟨rfl,hE.putObj (by simp at hD;omega) _⟩
   have hc5:=(box_putObj (o':=.deferred none) hK rfl p1).cell
   simp[results,Tryz.results71,go_sem,hc5]
 ·have hz:(cmpI (xs.length:Int) (ys.length:Int) != 0)=true:=by rw[bne_iff_ne];intro h;rw[cmpI_zero]at h;omega
  have HC:=Lib.hid (cmpI_len hl1 hl2 hn1 hn2 hlen)
  clear hlen
  gi_wp2_with (refine⟨trivial,?_⟩;gi_at_call 99;refine(callsIn_wide.2 (Tryz.compareI _ _ _)).mono ?_;rintro e w' ⟨rfl,rfl⟩)
  refine⟨.int .i64 (cmpI xs.length ys.length),?_,ret_i HC.out,(Ext.alloc1 _ _).alloc _⟩
  simp[results,Tryz.results71,go_sem]
end Go.Rt
namespace Go.Rt
open Go.RowKit Go.Proofs
theorem Nt.take {w:World} {a:Option Addr} {n cap:Nat} {xs:List Nat} (h:Nt w (.slice a n cap) xs) (k cap':Nat) (hk:k≤xs.length) (hc:cap'=cap):Nt w (.slice a k cap') (xs.take k):=by
 obtain⟨a',b,o,cp,e,hs,hl⟩:=h
 cases e
 subst hc
 have hlen:(xs.take k).length=k:=by rw[List.length_take,Nat.min_eq_left hk]
 exact⟨a,b,o,cap',by rw[hlen],by rw[hlen];exact hs.take k hk,hl.take k⟩
set_option maxHeartbeats 400000 in
theorem Tryz.divBare_loop (a:Option Addr) (b o cap:Nat) (xs:List Nat) (w:World) (hs:Sl w a b o xs.length cap (fun i=>.int .u64 ((lg xs i:Nat):Int))):
  Calls Tryz.prog 67 #[.slice a xs.length cap] w fun e w'=>w=w'∧∃ k,e=.returned (.slice a k cap)∧k≤xs.length∧(k=0∨lg xs (k - 1)≠0)∧∀ i,k≤i→i < xs.length→lg xs i=0:=by
 have hle:=hs.le
 have hmx:=hs.max
 go_enter Tryz.func67,Tryz.ntmps67
 go_wp2
 go_loop [0] (fun v=>∃ k:Nat,k≤xs.length∧v=.slice a k cap∧Hid (∀ i,k≤i→i < xs.length→lg xs i=0)) (fun v=>match v with | .slice _ k _=>k | _=>0)
 case atStart=>exact⟨xs.length,Nat.le_refl _,rfl,Lib.hid (fun i h1 h2=>absurd h1 (by omega))⟩
 case round=>
  obtain⟨k,hk,rfl,hz⟩:=hrel
  by_cases h0:0 < k
  ·obtain rfl:a=some ⟨b,o,none⟩:=hs.addr (by omega)
   have hc:=hs.cell (i:=k - 1) (by omega)
   clear hs
   by_cases hx:lg xs (k - 1)=0
   ·have hx':(((lg xs (k - 1):Nat):Int)==0)=true:=by simp[hx]
    have HX:=Lib.hid hx;clear hx
    go_wp2
    go_round
    case rel=>exact⟨k - 1,by omega,by first | rfl | go_num,fun i h1 h2=>by
     by_cases e:i=k - 1
     ·subst e;exact HX.out
     ·exact hz.out i (by omega) h2⟩
    case measure=>simp;omega
   ·have hx':(((lg xs (k - 1):Nat):Int)==0)=false:=by simp[hx]
    have HX:=Lib.hid hx;clear hx
    go_wp2
    go_ret
    exact⟨rfl,k,rfl,hk,.inr HX.out,hz.out⟩
  ·obtain rfl:k=0:=by omega
   go_wp2
   go_ret
   exact⟨rfl,0,rfl,by omega,.inl rfl,hz.out⟩
theorem Tryz.divBare {v:Value} {xs:List Nat} {w:World} (h:Nt w v xs):
  Calls Tryz.prog 67 #[v] w fun e w'=>∃ v',e=.returned v'∧Nw w v' (ev B64 xs)∧w=w'∧v'.ownBlock=v.ownBlock:=by
 obtain⟨a,b,o,cap,rfl,hs,hl⟩:=h
 refine(Tryz.divBare_loop a b o cap xs w hs).mono ?_
 rintro e w' ⟨rfl,k,rfl,hk,hk0,hz⟩
 exact⟨_,rfl,⟨xs.take k,Nt.take ⟨a,b,o,cap,rfl,hs,hl⟩ k cap hk rfl,norm_take hk hk0,bare_take hk hz⟩,rfl,by cases a <;> rfl⟩
set_option maxHeartbeats 400000 in
theorem Tryz.natBare_loop (a:Option Addr) (b o cap:Nat) (xs:List Nat) (w:World) (hs:Sl w a b o xs.length cap (fun i=>.int .u64 ((lg xs i:Nat):Int))):
  Calls Tryz.prog 68 #[.slice a xs.length cap] w fun e w'=>w=w'∧∃ k,e=.returned (.slice a k cap)∧k≤xs.length∧(k=0∨lg xs (k - 1)≠0)∧∀ i,k≤i→i < xs.length→lg xs i=0:=by
 have hle:=hs.le
 have hmx:=hs.max
 go_enter Tryz.func68,Tryz.ntmps68
 go_wp2
 go_loop [0] (fun v=>∃ k:Nat,k≤xs.length∧v=.slice a k cap∧Hid (∀ i,k≤i→i < xs.length→lg xs i=0)) (fun v=>match v with | .slice _ k _=>k | _=>0)
 case atStart=>exact⟨xs.length,Nat.le_refl _,rfl,Lib.hid (fun i h1 h2=>absurd h1 (by omega))⟩
 case round=>
  obtain⟨k,hk,rfl,hz⟩:=hrel
  by_cases h0:0 < k
  ·obtain rfl:a=some ⟨b,o,none⟩:=hs.addr (by omega)
   have hc:=hs.cell (i:=k - 1) (by omega)
   clear hs
   by_cases hx:lg xs (k - 1)=0
   ·have hx':(((lg xs (k - 1):Nat):Int)==0)=true:=by simp[hx]
    have HX:=Lib.hid hx;clear hx
    go_wp2
    go_round
    case rel=>exact⟨k - 1,by omega,by first | rfl | go_num,fun i h1 h2=>by
     by_cases e:i=k - 1
     ·subst e;exact HX.out
     ·exact hz.out i (by omega) h2⟩
    case measure=>simp;omega
   ·have hx':(((lg xs (k - 1):Nat):Int)==0)=false:=by simp[hx]
    have HX:=Lib.hid hx;clear hx
    go_wp2
    go_ret
    exact⟨rfl,k,rfl,hk,.inr HX.out,hz.out⟩
  ·obtain rfl:k=0:=by omega
   go_wp2
   go_ret
   exact⟨rfl,0,rfl,by omega,.inl rfl,hz.out⟩
theorem Tryz.natBare {v:Value} {xs:List Nat} {w:World} (h:Nt w v xs):
  Calls Tryz.prog 68 #[v] w fun e w'=>∃ v',e=.returned v'∧Nw w v' (ev B64 xs)∧w=w'∧v'.ownBlock=v.ownBlock:=by
 obtain⟨a,b,o,cap,rfl,hs,hl⟩:=h
 refine(Tryz.natBare_loop a b o cap xs w hs).mono ?_
 rintro e w' ⟨rfl,k,rfl,hk,hk0,hz⟩
 exact⟨_,rfl,⟨xs.take k,Nt.take ⟨a,b,o,cap,rfl,hs,hl⟩ k cap hk rfl,norm_take hk hk0,bare_take hk hz⟩,rfl,by cases a <;> rfl⟩
theorem Tryz.natOf (x:Nat) (w:World) (hx:x < B64):
  Calls Tryz.prog 35 #[.int .u64 (x:Int)] w fun e w'=>∃ v',e=.returned v'∧Nw w' v' x∧Ext w w'∧Fr w v':=by
 have hl:=Nt.lit1 w x 61 hx
 go_enter Tryz.func35,Tryz.ntmps35
 go_wp2_with fail
 refine(Tryz.natBare hl).mono ?_
 rintro e w' ⟨v',rfl,hn,rfl,hob⟩
 have hf:Fr w v':=fun k e=>by rw[hob]at e;cases e;exact Nat.le_refl _
 have HF:=Lib.hid hf;clear hob hf
 go_wp2
 go_ret
 rw[ev_single]at hn
 exact⟨_,rfl,hn,Ext.alloc1 _ _,HF.out⟩
theorem Tryz.infoU:(Tryz.prog.info? 61).map (fun i=>(i.zero,i.size,i.bytes))=some (some (.int .u64 0),1,8):=by kernel_rfl
set_option maxHeartbeats 400000 in
theorem Tryz.refBare {v:Value} {xs:List Nat} {w:World} (h:Nt w v xs) (hlen:xs.length≤1099511627776):
  Calls Tryz.prog 50 #[v] w fun e w'=>∃ v',e=.returned v'∧Nw w' v' (ev B64 xs)∧Ext w w'∧Fr w v':=by
 obtain⟨a,b,o,cap,rfl,hs,hl⟩:=h
 have hle:=hs.le
 have hmx:=hs.max
 go_enter Tryz.func50,Tryz.ntmps50
 go_wp2
 go_loop [3] (fun i=>∃ k:Nat,k≤xs.length∧i=.int .i64 k∧Hid (∀ i,k≤i→i < xs.length→lg xs i=0)) (fun i=>(intOf i).toNat)
 case atStart=>exact⟨xs.length,Nat.le_refl _,rfl,Lib.hid (fun i h1 h2=>absurd h1 (by omega))⟩
 case round=>
  obtain⟨k,hk,rfl,hz⟩:=hrel
  have fin:(k=0∨lg xs (k - 1)≠0)→ev B64 (xs.take k)=ev B64 xs∧Norm (xs.take k):=fun h=>⟨bare_take hk hz.out,norm_take hk h⟩
  by_cases h0:0 < k
  ·obtain rfl:a=some ⟨b,o,none⟩:=hs.addr (by omega)
   have hc:=hs.cell (i:=k - 1) (by omega)
   by_cases hx:lg xs (k - 1)=0
   ·have hx':(((lg xs (k - 1):Nat):Int)==0)=true:=by simp[hx]
    have HX:=Lib.hid hx;clear hx
    clear hs fin
    go_wp2
    go_round
    case rel=>exact⟨k - 1,by omega,by first | rfl | go_num,fun i h1 h2=>by
     by_cases e:i=k - 1
     ·subst e;exact HX.out
     ·exact hz.out i (by omega) h2⟩
    case measure=>simp[intOf];omega
   ·have hx':(((lg xs (k - 1):Nat):Int)==0)=false:=by simp[hx]
    have HF:=Lib.hid (fin (.inr hx));clear fin
    clear hx
    have ho:=Own.lit w [] w.heap.size 61 (Nat.le_refl _) (Nat.zero_le _)
    have hsl:Sl (w.alloc (.cells #[] 61)) (some ⟨b,o,none⟩) b o k cap (fun i=>.int .u64 ((lg (xs.take k) i:Nat):Int)):=(hs.ext (Ext.alloc1 _ _)).take k hk
    clear hs
    go_wp2_with (at_builtin;refine append_all Tryz.underlying41 Tryz.infoU rfl _ _ rfl w.heap.size _ [] (xs.take k) _ b o cap k rfl rfl (by simp;omega) ho hsl (by simp;omega) (by simp) ?_;intro v' w' ho' hg')
    go_ret
    exact⟨_,rfl,⟨xs.take k,by simpa using ho'.nt (by simpa using hl.take k),HF.out.2,HF.out.1⟩,(Ext.alloc1 _ _).grown hg' (by intro j e;cases e;exact Nat.le_refl _),ho'.fr⟩
  ·obtain rfl:k=0:=by omega
   have HF:=Lib.hid (fin (.inl rfl));clear fin
   have ho:=Own.lit w [] w.heap.size 61 (Nat.le_refl _) (Nat.zero_le _)
   rcases hs.1 with rfl | ⟨rfl,h0',rfl⟩
   ·have hsl:Sl (w.alloc (.cells #[] 61)) (some ⟨b,o,none⟩) b o 0 cap (fun i=>.int .u64 ((lg [] i:Nat):Int)):=(hs.ext (Ext.alloc1 _ _)).part 0 (by omega) (fun i hi=>by omega)
    clear hs
    go_wp2_with (at_builtin;refine append_all Tryz.underlying41 Tryz.infoU rfl _ _ rfl w.heap.size _ [] [] _ b o cap 0 rfl rfl rfl ho hsl (by simp) (by simp) ?_;intro v' w' ho' hg')
    go_ret
    exact⟨_,rfl,⟨xs.take 0,by simpa using ho'.nt (Lim.nil _),HF.out.2,HF.out.1⟩,(Ext.alloc1 _ _).grown hg' (by intro j e;cases e;exact Nat.le_refl _),ho'.fr⟩
   ·have hsl:Sl (w.alloc (.cells #[] 61)) none b o 0 0 (fun i=>.int .u64 ((lg [] i:Nat):Int)):=⟨.inr ⟨rfl,rfl,rfl⟩,by omega,by simp[maxLen],fun i hi=>by omega⟩
    have hl0:xs.length≤0:=by omega
    clear hs
    go_wp2_with (at_builtin;refine append_all Tryz.underlying41 Tryz.infoU rfl _ _ rfl w.heap.size _ [] [] _ b o 0 0 rfl rfl rfl ho hsl (by simp) (by simp) ?_;intro v' w' ho' hg')
    go_ret
    exact⟨_,rfl,⟨xs.take 0,by simpa using ho'.nt (Lim.nil _),HF.out.2,HF.out.1⟩,(Ext.alloc1 _ _).grown hg' (by intro j e;cases e;exact Nat.le_refl _),ho'.fr⟩
end Go.Rt
