/-
 A region that draws its order, inside a fence with a round: reads first, in whatever order, and one store (or any forced row of operations) at its end.
-/
import Derived.OwnWalkIn
import Derived.TacticsInMore
import Derived.OrdersIn
import Derived.StillTailTactics
import Derived.RangeFuncCalls
import Derived.Deep.RegionHeld3
namespace Go.Rt
open Go
def tame (o:Oper):Bool:=
 match o.op with
 | .move _ | .assign _ | .pick _ _ _ | .load _ _ | .binOp _ _ _ _ _ | .unOp _ _ _ | .convert _ _ _ | .fieldAddr _ _ _ | .field _ _ _ | .indexAddr _ _ _ | .index _ _ _ | .slice _ _ _ _ _=>true
 | _=>false
theorem then_ne {α:Type} (r:Result α) (g:α→World→Result Next) (f:FuncId) (args:Array Value) (w':World) (h:∀ a w1,g a w1≠.ok (.enter f args) w'):¬ r.andThen g=.ok (.enter f args) w':=by
 cases r with
 | ok a w1=>exact h a w1
 | halt x w1=>simp[Result.andThen]
theorem tame_enter {o:Oper} (ht:tame o=true) (ρ:Operand→Value) (P:Program) (w:World) (f:FuncId) (args:Array Value) (w':World):(execOp ρ o).run P w≠.ok (.enter f args) w':=by
 unfold tame at ht
 split at ht <;> first | (rename_i h;unfold execOp;rw[h];simp <;> (refine then_ne _ _ _ _ _ fun a w1=>?_) <;> first | (simp;done) | (split <;> simp;done) | (refine then_ne _ _ _ _ _ fun a w2=>?_;simp)) | cases ht
theorem tame_about {o:Oper} (ht:tame o=true) (P:Program) (w:World) (ρ:Operand→Value):o.about P w ρ=none:=by
 unfold tame at ht
 split at ht <;> first | (rename_i h;unfold Oper.about;rw[h]) | cases ht
theorem tame_sem {o:Oper} (ht:tame o=true) (F:Fence) (ρ:Operand→Value):o.semAt F.round ρ=execOp ρ o:=
 Oper.semAt_plain F ρ o (fun c hc=>by unfold tame at ht;rw[hc]at ht;cases ht)
section
variable {F:Fence} {n:Nat} {P:Program} {ops:Array Oper} {Q':Exit→Act→World→Prop} {w:World} {md:Region.Mode}
theorem wpIn_of_still {o:Oper} {a:Act} {K:Act→Prop} {K':Act→World→Prop} (ht:tame o=true) (h:∀ a,K a→K' a w) (hh:o.still P a w K):o.wpIn F n P a w K' Q':=by
 refine⟨fun f hf=>(by rw[tame_about ht]at hf;cases hf),?_⟩
 rw[tame_sem ht]
 unfold Oper.still at hh
 have hn:=tame_enter ht a.eval P w
 generalize (execOp a.eval o).run P w=r at *
 cases r with
 | ok x w'=>
  cases x <;> simp only[Oper.stillUpon]at hh <;> simp only[Oper.uponIn]
  case enter f args=>exact absurd rfl (hn f args w')
  all_goals (obtain⟨rfl,h2⟩:=hh;exact h _ h2)
 | halt x w'=>simp only[Oper.stillUpon]at hh
theorem wpOpIn_of_stOp {i:Nat} {a:Act} {K:Act→Prop} {K':Act→World→Prop} (ht:∀ o,ops[i]? = some o→tame o=true) (h:∀ a,K a→K' a w) (hh:stOp P ops w i K a):wpOpIn F n P ops Q' i K' a w:=by
 unfold stOp at hh
 unfold wpOpIn
 cases ho:ops[i]? with
 | none=>simp only[ho]at hh;exact h _ hh
 | some o=>
  simp only[ho]at hh
  by_cases hw:Region.wanted o (yielded ops a.tmps)
  ·simp only[hw,if_true]at hh ⊢;exact wpIn_of_still (ht o ho) h hh
  ·simp only[hw]at hh ⊢;exact⟨fun f hf=>(by rw[tame_about (ht o ho)]at hf;cases hf),h _ hh⟩
theorem anyIn_of_head {m g:Nat} {L:Array Bool→Act→Prop} (ht:∀ i o,i < m→ops[i]? = some o→tame o=true) (hL:∀ listed a,L listed a→wpAnyIn F n P md ops Q' g listed a w):
  ∀ (f:Nat) (listed:Array Bool) (a:Act),wpAnyL P md ops w m L f listed a→wpAnyIn F n P md ops Q' (f+g) listed a w
 | 0,listed,a,h=>by rw[Nat.zero_add];exact hL _ _ h
 | f+1,listed,a,h=>by
  rw[show f+1+g=(f+g)+1 by omega]
  exact⟨fun h0=>absurd h0 h.1,fun i hi=>wpOpIn_of_stOp (fun o ho=>ht i o (h.2 i hi).1 ho) (fun a' h'=>anyIn_of_head ht hL f _ a' h') (h.2 i hi).2⟩
theorem anyIn_of_seq:∀ (l:List Oper) (k:Nat) (listed:Array Bool) (a:Act) (w:World),(∀ j,l[j]? = ops[k+j]?) →
  Region.seqB md ops l.length k listed=true→wpListIn F n P ops Q' l a w→wpAnyIn F n P md ops Q' l.length listed a w
 | [],_,_,_,_,_,hB,h=>⟨by simpa [Region.seqB] using hB,h⟩
 | o :: l,k,listed,a,w,hl,hB,h=>by
  have h0:ops[k]? = some o:=by simpa using (hl 0).symm
  simp only[List.length_cons,Region.seqB,Bool.and_eq_true,decide_eq_true_eq]at hB
  refine⟨fun h1=>(by rw[hB.1]at h1;cases h1),fun i hi=>?_⟩
  rw[hB.1]at hi
  have hik:i=k:=by simpa using hi
  subst hik
  have hw:wpOpIn F n P ops Q' i (wpListIn F n P ops Q' l) a w:=by unfold wpOpIn;simp only[h0];exact h
  exact wpOpIn_mono (fun a' w' h'=>anyIn_of_seq l (i+1) _ a' w' (fun j=>by have:=hl (j+1);simpa [Nat.add_assoc,Nat.add_comm 1 j] using this) hB.2 h') hw
theorem wpIn_region_tail {id:Nat} {a:Act} {l:List Oper} (m:Nat) (hm:P.follows .mixedOrders=true) (hB:Region.lexTailB .any l.toArray m=true) (hT:(l.take m).all tame=true)
  (h:wpStill P l.toArray { w with drawn:=w.drawn+1 } (fun a'=>wpListIn F n P l.toArray Q' (l.drop m) a' { w with drawn:=w.drawn+1 }) (l.take m) a):(Code.region id l.toArray true).wpIn F n P Q' a w:=by
 simp only[Region.lexTailB,Bool.and_eq_true,decide_eq_true_eq]at hB
 obtain⟨⟨⟨⟨hsel,hn⟩,hs⟩,hc⟩,hlex⟩:=hB
 have hn':m < l.length:=by simpa using hn
 have hsz:l.toArray.size=m+(l.drop m).length:=by simp;omega
 have ht:∀ i o,i < m→l.toArray[i]? = some o→tame o=true:=fun i o hi ho=>by
  refine List.all_eq_true.1 hT o ?_
  refine List.mem_of_getElem? (i:=i) ?_
  rw[List.getElem?_take,if_pos hi]
  simpa using ho
 have H:=wpAnyL_lex (P:=P) (w:={ w with drawn:=w.drawn+1 }) (Lq:=fun a'=>wpListIn F n P l.toArray Q' (l.drop m) a' { w with drawn:=w.drawn+1 }) (md:=.any) (g:=l.toArray.size - m) hsel hs hc hn (l.take m) 0 (Array.replicate l.toArray.size false) a
  (fun j hj=>by rw[List.length_take]at hj;simp[show j < m by omega])
  (by rw[List.length_take];omega)
  ⟨by simp,fun j oj _ hl=>(by rw[getD_replicate_false]at hl;cases hl),fun t _ ht=>getD_in (by simpa using ht) (getD_replicate_false _ _)⟩
  (by rw[List.length_take,Nat.min_eq_left (by omega)];exact hlex) h
 refine wpIn_region_any hm ?_
 have hg:l.toArray.size - m=(l.drop m).length:=by omega
 rw[hg]at H
 have:=anyIn_of_head (F:=F) (n:=n) (Q':=Q') (g:=(l.drop m).length) ht (fun listed a' hL=>
  anyIn_of_seq (l.drop m) m listed a' _ (fun j=>by simp[List.getElem?_drop]) hL.1 hL.2) _ _ _ H
 rw[List.length_take,Nat.min_eq_left (by omega),← hsz]at this
 exact this
end
/-! ### The walk of orders with a held condition, inside the wide fence's round -/
def calm (o:Oper):Bool:=match o.op with | .defer _=>false | _=>true
theorem rows_in {P:Program} {n l:Nat} {row:String} {args:Array Value} {w:World} {R:Value→World→Prop} (h:Rows P row args w R):RowsIn (Fence.wide.inRound l) n P row args w R:=
 fun c cs _=>let ⟨v,w',r,s⟩:=h c cs;⟨v,w',r,stepsIn_wide.2 s⟩
section
variable {n l:Nat} {P:Program} {ops:Array Oper} {Q:Exit→Act→World→Prop} {md:Region.Mode}
theorem wpIn_of_wp {o:Oper} {a:Act} {w:World} {K:Act→World→Prop} (hd:calm o=true) (h:o.wp P a w K Q):o.wpIn (Fence.wide.inRound l) n P a w K Q:=by
 refine⟨fun f _=>trivial,?_⟩
 rw[Oper.semAt_plain _ _ _ (fun c hc=>by unfold calm at hd;rw[hc]at hd;cases hd)]
 unfold Oper.wp at h
 generalize (execOp a.eval o).run P w=r at *
 cases r with
 | ok x w'=>
  cases x <;> simp only[Oper.upon]at h <;> simp only[Oper.uponIn] <;>
   first
    | exact h
    | exact⟨fun hx=>(by cases hx),CallsIn.inRound l (callsIn_wide.2 (h.mono fun e w'' he=>by cases e <;> exact he))⟩
    | exact⟨fun hx=>(by cases hx),rows_in h⟩
 | halt x w'=>cases x <;> simp only[Oper.upon]at h <;> simp only[Oper.uponIn] <;> exact h
theorem anyIn_of_any (hc:ops.all calm=true) (hQ:¬ LetsOut Q):∀ (fuel:Nat) (listed:Array Bool) (a:Act) (w:World),wpAny P md ops Q fuel listed a w→wpAnyIn (Fence.wide.inRound l) n P md ops Q fuel listed a w
 | 0,_,_,_,h=>h
 | fuel+1,listed,a,w,h=>by
  refine⟨h.1,fun i hi=>?_⟩
  have hi':=h.2 i hi
  unfold wpOp at hi'
  unfold wpOpIn
  cases ho:ops[i]? with
  | none=>simp only[ho]at hi';exact anyIn_of_any hc hQ fuel _ _ _ hi'
  | some o=>
   simp only[ho]at hi'
   by_cases hw:Region.wanted o (yielded ops a.tmps)
   ·simp only[hw,if_true]at hi' ⊢
    have hcalm:calm o=true:=by
     have hm:=Array.all_eq_true'.1 hc o (Array.mem_of_getElem? ho)
     exact hm
    rcases hi' with hi' | ⟨_,hq⟩
    ·exact Oper.wpIn_mono (fun a' w' h'=>anyIn_of_any hc hQ fuel _ _ _ h') (wpIn_of_wp hcalm hi')
    ·exact absurd hq hQ
   ·simp only[hw]at hi' ⊢
    exact⟨fun f _=>trivial,anyIn_of_any hc hQ fuel _ _ _ hi'⟩
theorem wpIn_region_held {id:Nat} {S:World→Prop} {a:Act} {w:World} (hm:P.follows .mixedOrders=true) (hc:ops.all calm=true) (hQ:¬ LetsOut Q) (hS:S w.drew)
  (h:S w.drew→wpAnyH P .any ops Q S ops.size (Array.replicate ops.size false) a w.drew):(Code.region id ops true).wpIn (Fence.wide.inRound l) n P Q a w:=
 wpIn_region_any hm (anyIn_of_any hc hQ _ _ _ _ (wpAny_of_held _ _ _ _ (h hS)))
end
end Go.Rt
