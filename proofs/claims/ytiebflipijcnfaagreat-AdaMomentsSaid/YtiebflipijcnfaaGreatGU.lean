/-
  A mean in plain numbers: between the least and the greatest; half a step from what is exact.
  Chapter 16: a norm's square; the sides of what is clipped.
  Chapter 16: rows that are clipped by their own norm.
  Chapter 16: the mean of rows.
-/
import Derived.Test.YtiebflipijcnfaaGreatJK
import Derived.Test.YtiebflipijcnfaaGreatJI
namespace Go.Rt
open Go Go.RowKit Go.Proofs
def minK (ls:List (List Int)) (k:Nat):Nat→Int
  | 0=>atL (atR ls 0) k
  | j+1=>min (minK ls k j) (atL (atR ls j) k)
def maxK (ls:List (List Int)) (k:Nat):Nat→Int
  | 0=>atL (atR ls 0) k
  | j+1=>max (maxK ls k j) (atL (atR ls j) k)
theorem minK_sum (ls:List (List Int)) (k:Nat):∀ j,j≤ls.length→∀ i,i≤j→(i:Int)*minK ls k j≤colS (ls.take i) k∧colS (ls.take i) k≤(i:Int)*maxK ls k j:=by
  have hm:∀ j i,i < j→minK ls k j≤atL (atR ls i) k∧atL (atR ls i) k≤maxK ls k j:=by
    intro j
    induction j with
    | zero=>intro i hi;omega
    | succ j ih=>
      intro i hi
      unfold minK maxK
      rcases Nat.lt_or_ge i j with h | h
      · have:=ih i h
        omega
      · obtain rfl:i=j:=by omega
        omega
  intro j hj i
  induction i with
  | zero=>intro _;simp[colS]
  | succ i ih=>
    intro hi
    have h1:=ih (by omega)
    have h2:=hm j i (by omega)
    rw[colS_take (by omega)]
    have e1:((i+1:Nat):Int)*minK ls k j=(i:Int)*minK ls k j+minK ls k j:=by rw[Int.natCast_succ,Int.add_mul,Int.one_mul]
    have e2:((i+1:Nat):Int)*maxK ls k j=(i:Int)*maxK ls k j+maxK ls k j:=by rw[Int.natCast_succ,Int.add_mul,Int.one_mul]
    rw[e1,e2]
    omega
theorem minK_i64 {ls:List (List Int)} (h:∀ x ∈ ls.flatten,I64 x) (k:Nat):∀ j,j≤ls.length→0 < ls.length→I64 (minK ls k j)∧I64 (maxK ls k j):=by
  have ha:∀ i,i < ls.length→I64 (atL (atR ls i) k):=fun i hi=>atL_i64 (fun x hx=>h x (List.mem_flatten.2 ⟨_,atR_mem hi,hx⟩)) k
  intro j
  induction j with
  | zero=>intro _ h0;exact⟨ha 0 h0,ha 0 h0⟩
  | succ j ih=>
    intro hj h0
    have h1:=ih (by omega) h0
    have h2:=ha j (by omega)
    unfold minK maxK
    unfold I64 at *
    omega
theorem mean_mid {S:Int} {n:Nat} {lo hi:Int} (hn:0 < n) (h1:(n:Int)*lo≤S) (h2:S≤(n:Int)*hi):lo≤nearR (mkRat S n*P2 0)∧nearR (mkRat S n*P2 0)≤hi:=by
  rw[P2_zero,Rat.mul_one,Rat.mkRat_eq_div]
  have hq:(0:Rat) < (n:Rat):=by exact_mod_cast hn
  have e1:(lo:Rat)≤(S:Rat) / (n:Rat):=by
    refine Rat.le_of_mul_le_mul_right ?_ hq
    rw[Rat.div_mul_cancel (fun h0=>by rw[h0]at hq;exact absurd hq (by decide))]
    have:((lo*(n:Int):Int):Rat)≤(S:Rat):=by rw[Rat.intCast_le_intCast];rw[Int.mul_comm];exact h1
    rw[Rat.intCast_mul]at this
    exact this
  have e2:(S:Rat) / (n:Rat)≤(hi:Rat):=by
    refine Rat.le_of_mul_le_mul_right ?_ hq
    rw[Rat.div_mul_cancel (fun h0=>by rw[h0]at hq;exact absurd hq (by decide))]
    have:(S:Rat)≤((hi*(n:Int):Int):Rat):=by rw[Rat.intCast_le_intCast];rw[Int.mul_comm];exact h2
    rw[Rat.intCast_mul]at this
    exact this
  have m1:=near_mono e1
  have m2:=near_mono e2
  rw[near_int]at m1 m2
  exact⟨m1,m2⟩
theorem mean_half {S:Int} {n:Nat} (hn:0 < n):(nearR (mkRat S n*P2 0)*(n:Int) - S).natAbs+(nearR (mkRat S n*P2 0)*(n:Int) - S).natAbs≤n:=by
  rw[P2_zero,Rat.mul_one,Rat.mkRat_eq_div]
  obtain⟨h1,h2,-⟩:=near_is ((S:Rat) / (n:Rat))
  obtain⟨q,hq⟩:∃ q,q=nearR ((S:Rat) / (n:Rat)):=⟨_,rfl⟩
  rw[← hq]at h1 h2 ⊢
  have hp:(0:Rat) < (n:Rat):=by exact_mod_cast hn
  have e:(S:Rat) / (n:Rat)*(n:Rat)=(S:Rat):=Rat.div_mul_cancel (by intro h0;rw[h0]at hp;exact absurd hp (by decide))
  obtain⟨y,hy⟩:∃ y,y=(S:Rat) / (n:Rat):=⟨_,rfl⟩
  rw[← hy]at h1 h2 e
  have a1:-(n:Rat)≤2*((S:Rat) - (q:Rat)*(n:Rat)):=by
    have:=Rat.mul_le_mul_of_nonneg_right h1 (Rat.le_of_lt hp)
    grind
  have a2:2*((S:Rat) - (q:Rat)*(n:Rat))≤(n:Rat):=by
    have:=Rat.mul_le_mul_of_nonneg_right h2 (Rat.le_of_lt hp)
    grind
  have b1:-(n:Int)≤2*(S - q*(n:Int)):=by
    refine Rat.intCast_le_intCast.1 ?_
    rw[Rat.intCast_neg,Rat.intCast_mul,Rat.intCast_sub,Rat.intCast_mul,Rat.intCast_natCast]
    exact a1
  have b2:2*(S - q*(n:Int))≤(n:Int):=by
    refine Rat.intCast_le_intCast.1 ?_
    rw[Rat.intCast_mul,Rat.intCast_sub,Rat.intCast_mul,Rat.intCast_natCast]
    exact a2
  omega
theorem mean_is {ls:List (List Int)} (h:∀ x ∈ ls.flatten,I64 x) (hn:0 < ls.length) (k:Nat):
    minK ls k ls.length≤meanV ls k∧meanV ls k≤maxK ls k ls.length∧(meanV ls k*(ls.length:Int) - colS ls k).natAbs+(meanV ls k*(ls.length:Int) - colS ls k).natAbs≤ls.length:=by
  have h1:=minK_sum ls k ls.length (Nat.le_refl _) ls.length (Nat.le_refl _)
  rw[List.take_length]at h1
  obtain⟨m1,m2⟩:=mean_mid hn h1.1 h1.2
  obtain⟨i1,i2⟩:=minK_i64 h k ls.length (Nat.le_refl _) hn
  have hf:meanV ls k=nearR (mkRat (colS ls k) ls.length*P2 0):=by
    unfold meanV fitV fits
    rw[if_pos]
    simp only[decide_eq_true_eq]
    unfold I64 at i1 i2
    omega
  rw[hf]
  exact⟨m1,m2,mean_half hn⟩
end Go.Rt
namespace Go.Rt
open Go Go.RowKit Go.Proofs
end Go.Rt
namespace Go.Rt
open Go Go.RowKit Go.Proofs
theorem atR_map {ls:List (List Int)} {f:List Int→List Int} {i:Nat} (h:i < ls.length):atR (ls.map f) i=f (atR ls i):=by
  rw[atR_eq (by simpa using h),atR_eq h,List.getElem_map]
def LessR (W:World) (s:Value) (N m j:Nat) (ls:List (List Int)) (vs:List Value):Prop:=
  vs.length=j∧∀ q,q < j→∃ ai ci l0 h0,vs[q]? = some (.slice ai (atR ls q).length ci)∧Iz l0 h0 W ai (atR ls q).length ci (clipL N m (atR ls q))∧h0≤W.heap.size∧∀ g,s.ownBlock=some g→g < l0∨h0≤g
theorem LessR.ext {W W':World} {s:Value} {N m j:Nat} {ls:List (List Int)} {vs:List Value} (h:LessR W s N m j ls vs) (hE:Ext W W'):LessR W' s N m j ls vs:=
  ⟨h.1,fun q hq=>let ⟨a,c,l0,h0,e,k,k1,k2⟩:=h.2 q hq;⟨a,c,l0,h0,e,k.ext hE,Nat.le_trans k1 hE.size,k2⟩⟩
theorem LessR.snoc {W W':World} {s:Value} {N m j:Nat} {ls:List (List Int)} {vs:List Value} (h:LessR W s N m j ls vs) {ai:Option Addr} {ci lo hh gb nb cb:Nat} {o:Obj} (hi:Iz lo hh W ai (atR ls j).length ci (clipL N m (atR ls j))) (hs:hh≤W.heap.size) (hlo:∀ g,s.ownBlock=some g→g < lo)
    (hg:(W.alloc o).grownBy W' s.ownBlock) (hat:s.ownBlock=some gb∨gb=W.heap.size+1):LessR W' (.slice (some ⟨gb,0,none⟩) nb cb) N m (j+1) ls (vs++[.slice ai (atR ls j).length ci]):=by
  have hz:W.heap.size+1≤W'.heap.size:=by
    have:=hg.size
    simpa using this
  refine⟨by rw[List.length_append,h.1];rfl,fun q hq=>?_⟩
  rcases Nat.lt_or_ge q j with h1 | h1
  · obtain⟨a,c,l0,h0,e,k,k1,k2⟩:=h.2 q h1
    refine⟨a,c,l0,h0,by rw[List.getElem?_append_left (by rw[h.1];exact h1)];exact e,(k.ext (Ext.alloc1 W o)).grown hg k2,by omega,fun g e1=>?_⟩
    have e2:gb=g:=Option.some.inj e1
    subst e2
    rcases hat with h3 | h3
    · exact k2 _ h3
    · omega
  · obtain rfl:q=j:=by omega
    refine⟨ai,ci,lo,hh,by rw[List.getElem?_append_right (by rw[h.1];exact Nat.le_refl _),h.1,Nat.sub_self];rfl,(hi.ext (Ext.alloc1 W o)).grown hg (fun g e=>.inl (hlo g e)),by omega,fun g e1=>?_⟩
    have e2:gb=g:=Option.some.inj e1
    subst e2
    rcases hat with h3 | h3
    · exact .inl (hlo _ h3)
    · omega
theorem LessR.mw {W:World} {base N m:Nat} {e:TypeId} {s:Value} {ls:List (List Int)} {vs:List Value} (h:LessR W s N m ls.length ls vs) (ho:OwnV W base e s vs):
    ∃ a c,s=.slice a ls.length c∧Mw 0 W.heap.size W a ls.length c (ls.map (clipL N m)):=by
  obtain⟨a,c,e1,h1⟩:=ho.mw (lo:=0) (hh:=W.heap.size) (ls:=ls.map (clipL N m)) (by rw[List.length_map,h.1]) (fun g hg=>⟨Nat.zero_le _,(ho.block g hg).2⟩) (fun i hi=>by
    have h2:=h.1
    obtain⟨ai,ci,l0,h0,e,k,k1,-⟩:=h.2 i (by omega)
    rw[atR_map (by omega),clipL_len]
    exact⟨ai,ci,e,k.mono (Nat.zero_le _) k1⟩)
  rw[List.length_map]at e1 h1
  exact⟨a,c,e1,h1⟩
end Go.Rt
namespace Go.Rt
open Go Go.RowKit Go.Proofs
end Go.Rt
