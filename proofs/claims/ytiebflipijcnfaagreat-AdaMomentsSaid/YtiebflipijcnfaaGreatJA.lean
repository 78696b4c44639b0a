/-
  A range over a function whose rounds may panic: told for the frames of one function alone.
  slices.Chunk over a row of integers: the iterator's word, where rounds may panic.
  Adafactor's moments: what a walk over chunks keeps.
-/
import Derived.Test.YtiebflipijcnfaaGreatJN
namespace Go.Rt
open Go.RowKit Go.Shelf
def wpAt (f:FuncId) (P:Program) (c:Code) (Q:Exit→Act→World→Prop) (a:Act) (w:World):Prop:=
  ∀ (b:Frame) (k:List Item) (cs:List Frame),b.roundOf=none→b.fn=f→∃ e a' w',Q e a' w'∧ArrivesIn (Machine.fenced P Fence.wide) P (lone (b.atR a (.code c :: k)) cs w) b k cs e a' w'
section
variable {f:FuncId} {P:Program} {Q:Exit→Act→World→Prop} {a:Act} {w:World}
theorem wpAt_of_wp {c:Code} (h:c.wp P Q a w):wpAt f P c Q a w:=fun b k cs hr _=>(wpIn_wide (n:=0)).2 h b k cs hr trivial (room_wide _)
theorem wpAt_seq {x y:Code} (h:wpAt f P x (Exit.then (wpAt f P y Q) Q) a w):wpAt f P (Code.seq x y) Q a w:=by
  intro b k cs hr hb
  have h0:(lone (b.atR a (.code (.seq x y) :: k)) cs w).fenced P Fence.wide:=fenced_wide _ _
  obtain⟨e,a₁,w₁,hq,harr⟩:=h b (.code y :: k) cs hr hb
  cases e with
  | normal=>
    obtain⟨e₂,a₂,w₂,hq₂,harr₂⟩:=hq b k cs hr hb
    exact⟨e₂,a₂,w₂,hq₂,.of_steps (.head h0 stepR_seq harr) harr₂⟩
  | exit id=>exact⟨_,a₁,w₁,hq,.of_steps (.one h0 stepR_seq) (.pass (x:=.code y) rfl (fun _ _=>.inl (by simp)) harr)⟩
  | goto l=>exact⟨_,a₁,w₁,hq,.of_steps (.one h0 stepR_seq) (.pass (x:=.code y) rfl (fun _ _=>.inl (by simp)) harr)⟩
  | ret=>exact⟨_,a₁,w₁,hq,.of_steps (.one h0 stepR_seq) (.pass (x:=.code y) rfl (fun _ _=>.inl (by simp)) harr)⟩
  | panic ch=>exact⟨_,a₁,w₁,hq,.of_steps (.one h0 stepR_seq) (.pass (x:=.code y) rfl (fun _ _=>.inl (by simp)) harr)⟩
  | outgrown=>exact⟨_,a₁,w₁,hq,.of_steps (.one h0 stepR_seq) (.pass (x:=.code y) rfl (fun _ _=>.inl (by simp)) harr)⟩
theorem wpAt_block {id:Nat} {c:Code} (h:wpAt f P c (Exit.inBlock id Q) a w):wpAt f P (Code.block id c) Q a w:=by
  intro b k cs hr hb
  have h0:(lone (b.atR a (.code (.block id c) :: k)) cs w).fenced P Fence.wide:=fenced_wide _ _
  obtain⟨e,a₁,w₁,hq,harr⟩:=h b (.inBlock id :: k) cs hr hb
  cases e with
  | normal=>exact⟨.normal,a₁,w₁,hq,.head h0 stepR_block (StepsIn.trans harr (.one (fenced_wide _ _) stepR_inBlock))⟩
  | exit id'=>
    by_cases hid:id'=id
    · simp only[Exit.inBlock,hid,if_true]at hq
      exact⟨.normal,a₁,w₁,hq,.head h0 stepR_block (harr.1 k (by simp[exitTo,hid]))⟩
    · simp only[Exit.inBlock,hid,if_false]at hq
      have this:(id==id')=false:=by simp;exact fun h=>hid h.symm
      have hx:exitTo id' (.inBlock id :: k)=exitTo id' k:=by simp[exitTo,this]
      exact⟨.exit id',a₁,w₁,hq,fun k' hk=>.head h0 stepR_block (harr.1 k' (by rw[hx];exact hk)),
        fun hr' hk=>let ⟨k₁,h1,h2⟩:=harr.2 hr' (by rw[hx];exact hk);⟨k₁,h1,.head h0 stepR_block h2⟩⟩
  | goto l=>
    have hx:gotoIn l (.inBlock id :: k)=gotoIn l k:=by simp[gotoIn]
    exact⟨_,a₁,w₁,hq,fun k' hk=>.head h0 stepR_block (harr.1 k' (by rw[hx];exact hk)),
      fun hr' hk=>let ⟨k₁,h1,h2⟩:=harr.2 hr' (by rw[hx];exact hk);⟨k₁,h1,.head h0 stepR_block h2⟩⟩
  | ret=>exact⟨_,a₁,w₁,hq,.of_steps (.one h0 stepR_block) harr⟩
  | panic ch=>exact⟨_,a₁,w₁,hq,.of_steps (.one h0 stepR_block) harr⟩
  | outgrown=>exact⟨_,a₁,w₁,hq,.of_steps (.one h0 stepR_block) harr⟩
end
theorem calls_of_wpAt {n:Nat} {P:Program} {f:FuncId} {fn:Func} {c:Code} {args:Array Value} {w:World} {R:Ending→World→Prop} (hf:P.funcs[f]? = some fn) (hb:fn.body=some c)
    (h:wpAt f P c (bodyPostM Fence.wide n P fn R) { tmps:=args++Array.replicate (fn.ntmps - args.size) undef,defers:=[] } w):Calls P f args w R:=by
  refine(callsIn_wide (n:=n)).1 ⟨trivial,fun cs hr=>?_⟩
  let b:Frame:={ (default:Frame)with fn:=f,kind:=.normal,roundOf:=none }
  have henter:Frame.enter P f args .normal =
      b.atR { tmps:=args++Array.replicate (fn.ntmps - args.size) undef,defers:=[] } [.code c]:=by
    simp[Frame.enter,Frame.atR,hf,hb,b]
  obtain⟨e,a',w',hq,harr⟩:=h b [] cs rfl rfl
  rw[← henter]at harr
  cases e with
  | normal=>
    obtain⟨e',w'',fr',hR,hs,hfn,hl⟩:=leaves_stepsInM a'.defers .returning w' { b.atR a' []with mode:=.returning } cs rfl rfl rfl hf rfl trivial hr hq
    exact⟨e',w'',fr',hR,ComesIn.of_steps (StepsIn.trans harr (.one (fenced_wide _ _) (stepR_end rfl))) hs,hfn,hl⟩
  | ret=>
    obtain⟨todo,hs₀⟩:=harr.1 rfl
    obtain⟨e',w'',fr',hR,hs,hfn,hl⟩:=leaves_stepsInM a'.defers .returning w' { b.atR a' todo with mode:=.returning } cs rfl rfl rfl hf rfl trivial hr hq
    exact⟨e',w'',fr',hR,ComesIn.of_steps hs₀ hs,hfn,hl⟩
  | panic chain=>
    obtain⟨todo,hs₀⟩:=harr
    obtain⟨e',w'',fr',hR,hs,hfn,hl⟩:=leaves_stepsInM a'.defers (.panicking chain) w' { b.atR a' todo with mode:=.panicking chain } cs rfl rfl rfl hf rfl trivial hr hq
    exact⟨e',w'',fr',hR,ComesIn.of_steps hs₀ hs,hfn,hl⟩
  | exit id=>exact hq.elim
  | goto l=>exact hq.elim
  | outgrown=>exact⟨.outgrown,w',b,hq,harr.resolve_left (by simp[b]),rfl,trivial⟩
def roundPostP (P:Program) (l:Nat) (R:Ending→World→Prop):Exit→Act→World→Prop
  | .normal,_,w=>∃ v w',(Instr.endRound l none).run P w=.ok v w'∧R (.returned v) w'
  | .panic ch,a,w=>a.defers=[]∧R (.panicked ch) w
  | _,_,_=>False
theorem roundIn_of_wpInP {n l:Nat} {P:Program} {f:FuncId} {fnc:Func} {tmps:Array Value} {assign body:Code} {w:World} {R:Ending→World→Prop} (hfc:P.funcs[f]? = some fnc)
    (h:assign.wpIn (Fence.wide.inRound l) n P (Exit.then (fun a₁ w₁=>∃ w₂,(Instr.beginRound l).run P w₁=.ok () w₂∧body.wpIn (Fence.wide.inRound l) n P (roundPostP P l R) a₁ w₂) (fun _ _ _=>False)) { tmps:=tmps,defers:=[] } w):
    RoundIn Fence.wide n P l f tmps assign body w R:=by
  refine⟨trivial,fun c cs hr=>?_⟩
  let b:Frame:={ (default:Frame)with fn:=f,kind:=.normal,roundOf:=some l }
  have hb0:Frame.round l f tmps assign body .normal=b.atR { tmps:=tmps,defers:=[] } [.code assign,.beginRound,.code body]:=by
    simp[Frame.round,Frame.atR,b]
  obtain⟨e,a₁,w₁,hq,harr⟩:=h b [.beginRound,.code body] (c :: cs) rfl trivial (room_wide _)
  rw[← hb0]at harr
  cases e with
  | normal=>
    obtain⟨w₂,hbr,hbody⟩:=hq
    have s1:StepsIn (Machine.fenced P Fence.wide) P (lone (b.atR a₁ [.beginRound,.code body]) (c :: cs) w₁) (lone (b.atR a₁ [.code body]) (c :: cs) w₂):=
      .one (fenced_wide _ _) (stepR_beginRound rfl hbr)
    obtain⟨e₂,a₂,w₃,hq₂,harr₂⟩:=hbody b [] (c :: cs) rfl trivial (room_wide _)
    cases e₂ with
    | normal=>
      obtain⟨v,w₄,hend,hR⟩:=hq₂
      exact⟨.returned v,w₄,hR,(StepsIn.trans harr s1).trans (StepsIn.trans harr₂ (.one (fenced_wide _ _) (stepR_round_end rfl rfl hend)))⟩
    | panic chain=>
      obtain⟨hd,hR⟩:=hq₂
      obtain⟨todo,hs⟩:=harr₂
      exact⟨.panicked chain,w₃,hR,(StepsIn.trans harr s1).trans (StepsIn.trans hs (.one (fenced_wide _ _) (step_leave_panicked (fr:={ b.atR a₂ todo with mode:=.panicking chain }) ⟨rfl,hd,fnc,hfc⟩)))⟩
    | ret=>exact hq₂.elim
    | exit id=>exact hq₂.elim
    | goto t=>exact hq₂.elim
    | outgrown=>exact hq₂.elim
  | exit id=>exact hq.elim
  | goto t=>exact hq.elim
  | ret=>exact hq.elim
  | panic chain=>exact hq.elim
  | outgrown=>exact hq.elim
def roundQP (B:Nat) (I:Nat→World→Prop) (Ip:List PanicEntry→World→Prop) (k:Nat) (W:World):Exit→Act→World→Prop
  | .normal,_,W'=>KeepsFrom B W W'∧I (k+1) W'
  | .panic ch,a,W'=>a.defers=[]∧KeepsFrom B W W'∧Ip ch W'
  | _,_,_=>False
def IterP (P:Program) (gf:Nat) (lb:Array Value) (n:Nat) (vals:Nat→Array Value) (can:Nat→World→Prop):Prop:=
  ∀ (l:Nat) (J:Nat→World→Prop) (Jp:List PanicEntry→World→Prop) (W:World),(∀ k W,k≤n→J k W→can k W)→(∀ k W,J k W→J k W.drew) →
    (∀ k W1,k < n→J k W1→YieldAt Fence.wide 8 P l (vals k) W1 fun e W'=>(e=.returned (.bool true)∧J (k+1) W')∨∃ ch,e=.panicked ch∧Jp ch W') →
    J 0 W →
    CallsIn Fence.wide 9 P gf (#[.func (.yield l) #[] #[]]++lb) W fun e W'=>(∃ v,e=.returned v∧J n W')∨∃ ch,e=.panicked ch∧Jp ch W'
def roundThenP (P:Program) (l B:Nat) (I:Nat→World→Prop) (Ip:List PanicEntry→World→Prop) (k:Nat) (body:Code) (W:World):Act→World→Prop:=
  fun a' W'=>W=W'∧∀ W2,I k W2→body.wpIn (Fence.wide.inRound l) 8 P (roundQP B I Ip k W2) a' W2
theorem roundThenP.mk {P:Program} {l B:Nat} {I:Nat→World→Prop} {Ip:List PanicEntry→World→Prop} {k:Nat} {body:Code} {W:World} {a':Act}
    (h:∀ W2,I k W2→body.wpIn (Fence.wide.inRound l) 8 P (roundQP B I Ip k W2) a' W2):roundThenP P l B I Ip k body W a' W:=⟨rfl,h⟩
theorem wpAt_range {P:Program} {f:FuncId} {fnc:Func} {g:Operand} {ps:Array Tmp} {assign body:Code} {Q:Exit→Act→World→Prop} {a:Act} {w:World} (hfc:P.funcs[f]? = some fnc)
    {gf:Nat} {lb:Array Value} (hg:a.eval g=.func (.func gf) #[] lb) (eg:∀ args w,(callFunc gf args).run P w=.ok (.enter gf args) w)
    {n:Nat} {vals:Nat→Array Value} {can:Nat→World→Prop} (hit:IterP P gf lb n vals can) (hps:∀ k,(vals k).size=ps.size)
    (I:Nat→World→Prop) (Ip:List PanicEntry→World→Prop) (hI:∀ k,Turns w.heap.size (I k)) (hIa:∀ k W o,I k W→I k (W.alloc o)) (hId:∀ k W,I k W→I k W.drew) (h0:I 0 w)
    (hcan:∀ k W,k≤n→I k W→can k W)
    (hround:∀ (l k:Nat) (W:World),k < n→I k W→assign.wpIn (Fence.wide.inRound l) 8 P
      (Exit.then (roundThenP P l w.heap.size I Ip k body W) (fun _ _ _=>False))
      { tmps:=(ps.zip (vals k)).foldl (fun t (p,v)=>t.setIfInBounds p v) a.tmps,defers:=[] } W)
    (hdone:∀ (D:Nat) (W:World),w.heap.size≤D→I n W→W.heap[D]? = some (.deferred (some []))→Q .normal { a with defers:={ target:=.collected D,args:=#[] } :: a.defers } W)
    (hstop:∀ (D:Nat) (ch:List PanicEntry) (W:World),w.heap.size≤D→Ip ch W→W.heap[D]? = some (.deferred (some []))→Q (.panic ch) { a with defers:={ target:=.collected D,args:=#[] } :: a.defers } W):
    wpAt f P (Code.rangeFunc g ps assign body) Q a w:=by
  intro b k cs hr hb
  obtain⟨rec,hrec⟩:∃ rec:LoopState→Loop,rec=fun st=>{ state:=st,pending:=none,fn:=f,tmps:=a.tmps,params:=ps,assign,body,defers:=w.heap.size }:=⟨_,rfl⟩
  obtain⟨W1,hW1⟩:∃ W1,(w.alloc (.deferred (some []))).alloc (.loop (rec .ready))=W1:=⟨_,rfl⟩
  have hL1:W1.heap[w.heap.size+1]? = some (.loop (rec .ready)):=by
    rw[← hW1];have:=World.alloc_heap_new (w.alloc (.deferred (some []))) (.loop (rec .ready));rwa [World.size_alloc]at this
  have hK1:W1.heap[w.heap.size]? = some (.deferred (some [])):=by
    rw[← hW1];exact(Below.heap_alloc _ _ _ (by simp)).trans (World.alloc_heap_new w _)
  have hI1:I 0 W1:=by rw[← hW1];exact hIa _ _ _ (hIa _ _ _ h0)
  have he:(Instr.enterLoop b.fn a.tmps ps assign body b.roundOf).run P w=.ok (w.heap.size+1,[{ target:=.collected w.heap.size,args:=#[] }]) W1:=by
    rw[hr,hb,← hW1,hrec];exact run_enterLoop_outer _ _ _ _ _
  have hres:(resolve a.eval (rangeCall g (w.heap.size+1)) 0).run P W1=.ok { target:=.fn (.func gf) lb,args:=#[.func (.yield (w.heap.size+1)) #[] #[]] } W1:=by
    simp only[resolve,hg]
    simp[go_sem]
  have hinv:(invoke (Target.fn (.func gf) lb) #[.func (.yield (w.heap.size+1)) #[] #[]]).run P W1=.ok (.enter gf (#[.func (.yield (w.heap.size+1)) #[] #[]]++lb)) W1:=by
    simp[invoke,go_sem,eg]
  have henter:=stepR_rangeFunc (P:=P) (b:=b) (a:=a) (k:=k) (cs:=cs) (w:=w) he hres hinv
  have hcall:=hit (w.heap.size+1)
    (fun k W=>I k W∧W.heap[w.heap.size+1]? = some (.loop (rec .ready))∧W.heap[w.heap.size]? = some (.deferred (some [])))
    (fun ch W=>Ip ch W∧W.heap[w.heap.size]? = some (.deferred (some [])))
    W1 (fun k W hk h=>hcan k W hk h.1) (fun k W h=>⟨hId k W h.1,h.2.1,h.2.2⟩) (by
      rintro k W hkn ⟨hi,hl,hk⟩
      have hlt:w.heap.size+1 < W.heap.size:=(Array.getElem?_eq_some_iff.1 hl).1
      have hy:=run_yield (P:=P) (args:=vals k) hl (by rw[hrec];exact hps k)
      rw[hrec]at hy
      refine⟨f,_,assign,body,hy,roundIn_of_wpInP hfc (wpIn_mono (hround (w.heap.size+1) k W hkn hi) ?_)⟩
      clear hy
      rintro e a' W' hq
      cases e with
      | exit id=>exact hq.elim
      | goto t=>exact hq.elim
      | ret=>exact hq.elim
      | panic chain=>exact hq.elim
      | outgrown=>exact hq.elim
      | normal=>
      obtain⟨rfl,hb⟩:=hq
      refine⟨_,run_beginRound hl (by rw[hrec]),?_⟩
      have hl2:(W.putObj (w.heap.size+1) (.loop { rec .ready with state:=.busy })).heap[w.heap.size+1]? = some (.loop { rec .ready with state:=.busy }):=World.putObj_heap_same hlt
      have hk2:(W.putObj (w.heap.size+1) (.loop { rec .ready with state:=.busy })).heap[w.heap.size]? = some (.deferred (some [])):=(World.putObj_heap_other (by omega)).trans hk
      refine wpIn_mono (hb _ (hI k _ _ _ _ (by omega) hl rfl rfl hi)) ?_
      rintro e a3 W3 hp
      cases e with
      | normal=>
        obtain⟨hk3,hi3⟩:=hp
        have hl3:=hk3.same _ _ (by omega) hl2 rfl
        have hr3:=run_endRound (P:=P) none hl3
        rw[hrec]at hr3 hl3 ⊢
        exact⟨_,_,hr3,.inl ⟨rfl,hI _ _ _ _ _ (by omega) hl3 rfl rfl hi3,World.putObj_heap_same (Array.getElem?_eq_some_iff.1 hl3).1,(World.putObj_heap_other (by omega)).trans (hk3.same _ _ (Nat.le_refl _) hk2 rfl)⟩⟩
      | panic ch=>
        obtain⟨hd,hk3,hi3⟩:=hp
        exact⟨hd,.inr ⟨ch,rfl,hi3,hk3.same _ _ (Nat.le_refl _) hk2 rfl⟩⟩
      | ret=>exact hp.elim
      | exit id=>exact hp.elim
      | goto t=>exact hp.elim
      | outgrown=>exact hp.elim) ⟨hI1,hL1,hK1⟩
  obtain⟨e,w₃,fr,hR,hsteps,hfn,hleave⟩:=hcall.2 (b.atR { a with defers:=[{ target:=.collected w.heap.size,args:=#[] }]++a.defers } (.inRangeFunc (w.heap.size+1) :: k) :: cs) (room_wide _)
  rcases hR with ⟨v,rfl,hi,hl,hk⟩ | ⟨ch,rfl,hi,hk⟩
  · have hend:=run_endLoop (P:=P) hl (by rw[hrec];simp)
    refine⟨.normal,_,_,hdone w.heap.size _ (Nat.le_refl _) (hI n w₃ (w.heap.size+1) (.loop (rec .ready)) (.loop { rec .ready with state:=.exhausted }) (by omega) hl rfl rfl hi) ((World.putObj_heap_other (by omega)).trans hk),?_⟩
    have hend':(Instr.endLoop (w.heap.size+1)).run P w₃=.ok none (w₃.putObj (w.heap.size+1) (.loop { rec .ready with state:=.exhausted })):=by rw[hrec]at hend ⊢;exact hend
    have st:=stepR_endRangeFunc (P:=P) (b:=b) (a:={ a with defers:=[{ target:=.collected w.heap.size,args:=#[] }]++a.defers }) (k:=k) (cs:=cs) hend'
    refine .head (fenced_wide _ _) henter (StepsIn.trans hsteps (.head (fenced_wide _ _) ?_ (.one (fenced_wide _ _) st)))
    rw[← finish_atR_inRangeFunc (w.heap.size+1) v];exact step_leave_returned hleave
  · refine⟨.panic ch,_,_,hstop w.heap.size ch _ (Nat.le_refl _) hi hk,.inRangeFunc (w.heap.size+1) :: k,.head (fenced_wide _ _) henter (StepsIn.trans hsteps (.one (fenced_wide _ _) ?_))⟩
    rw[← Frame.raise_atR];exact step_leave_panicked hleave
theorem panic_mark {n:Nat} {P:Program} {fn:Func} {R:Ending→World→Prop} {D:Nat} {tmps:Array Value} {W:World} {ch:List PanicEntry} {fi:Nat} (hK:W.heap[D]? = some (.deferred (some []))) (_:P.funcs[fi]? = some fn)
    (hR:R (.panicked ch) (W.putObj D (.deferred none))):
    bodyPostM Fence.wide n P fn R (.panic ch) { tmps:=tmps,defers:=[{ target:=.collected D,args:=#[] }] } W:=by
  refine⟨by simp,.inl ⟨_,_,rfl,run_takeDeferred hK,?_⟩⟩
  exact hR
end Go.Rt
namespace Go.Rt
open Go.RowKit Go.Shelf Go.Proofs
attribute [local go_sem] Oper.semAt_some
theorem drewN_keep {J:World→Prop} (h:∀ W,J W→J W.drew):∀ (n:Nat) {W:World},J W→J (W.drewN n)
  | 0,_,hj=>hj
  | n+1,W,hj=>h (W.drewN n) (drewN_keep h n hj)
def chunkVals (b o cl:Nat) (k:Nat):Array Value:=#[.slice (some ⟨b,o+k*cl,none⟩) cl cl]
def chunkCan (B b o n cap cl:Nat) (_:Nat) (W:World):Prop:=W.cell? ⟨B,0,none⟩=some (.slice (some ⟨b,o,none⟩) n cap)∧W.cell? ⟨B+1,0,none⟩=some (.int .i64 (cl:Int))
set_option maxRecDepth 100000 in
set_option maxHeartbeats 2000000 in
theorem Tryz.chunk_iter (B b o n cap cl R:Nat) (hn:n=R*cl) (hnc:n≤cap) (_:cap≤9223372036854775807) (hcl:1≤cl) (h1000:n≤1000):
    IterP Tryz.prog 108 #[.pointer (some ⟨B,0,none⟩),.pointer (some ⟨B+1,0,none⟩)] R (chunkVals b o cl) (chunkCan B b o n cap cl):=by
  intro l J Jp W hcan hdr hY h0
  have HN:=Lib.hid hn
  clear hn
  refine callsIn_of_wp Tryz.func108 rfl trivial ?_ rfl
  simp only[Tryz.ntmps108,List.size_toArray,List.length_cons,List.length_nil,Nat.reduceAdd,Nat.reduceSub,Array.replicate_succ,Array.replicate_zero,List.push_toArray,List.append_toArray,List.nil_append,List.cons_append]
  gi_wp2
  gi_loopw [4] (fun i wr=>∃ k:Nat,k≤R∧i=.int .i64 ((k*cl:Nat):Int)∧J k wr) (fun i _=>n+1 - (intOf i).toNat)
  case atStart=>exact⟨0,Nat.zero_le _,by simp,h0⟩
  case round=>
    obtain⟨k,hk,hi,hJ⟩:=hrel
    subst hi
    obtain⟨hs,hc⟩:=hcan k wr hk hJ
    by_cases hlt:k < R
    · obtain⟨j,hj⟩:∃ j,j=k*cl:=⟨_,rfl⟩
      have hjn:j+cl≤n:=by
        rw[hj,HN.out,← Nat.succ_mul]
        exact Nat.mul_le_mul_right _ hlt
      have hjlt:(j:Int) < (n:Int):=by omega
      have hmn:min (cl:Int) ((n - j:Nat):Int)=(cl:Int):=by omega
      have hmn2:min (cl:Int) ((n:Int) - (j:Int))=(cl:Int):=by omega
      rw[← hj]
      have HJ:=Lib.hid hj
      clear hj
      have HY:=Lib.hid (And.intro hdr hY)
      have HCAN:=Lib.hid hcan
      clear hcan hdr hY h0
      gi_wp2
      refine wpIn_wide.2 ?_
      go_quiet (fail)
      obtain⟨hdr,hY⟩:=HY.out
      have hJ2:J k (wr.drewN nq):=drewN_keep (fun W h=>hdr k W h) nq hJ
      have hy0:=hY k (wr.drewN nq) hlt hJ2
      rw[chunkVals,← HJ.out]at hy0
      obtain⟨fn,tmps,assign,body,hy,hR⟩:=hy0
      have hs2:(wr.drewN nq).cell? ⟨B,0,none⟩=some (.slice (some ⟨b,o,none⟩) n cap):=hs
      have hc2:(wr.drewN nq).cell? ⟨B+1,0,none⟩=some (.int .i64 (cl:Int)):=hc
      clear hdr hY HY
      gi_wp2
      refine hR.mono ?_
      rintro e W3 (⟨rfl,hJ3⟩ | ⟨ch,rfl,hp⟩)
      · clear hy hR hs hc hs2 hc2 hJ hJ2
        obtain⟨hs,hc⟩:=HCAN.out (k+1) W3 hlt hJ3
        gi_wp2
        go_roundw
        case rel=>
          have hj:=HJ.out
          refine⟨k+1,hlt,congrArg (Value.int .i64) ?_,hJ3⟩
          rw[Nat.succ_mul,← hj]
          omega
        case measure=>simp[intOf];omega
      · exact⟨rfl,.inr ⟨ch,rfl,hp⟩⟩
    · obtain rfl:k=R:=by omega
      have hge:¬ ((k*cl:Nat):Int) < (n:Int):=by rw[HN.out];omega
      obtain⟨j,hj⟩:∃ j,j=k*cl:=⟨_,rfl⟩
      rw[← hj]at hge ⊢
      clear hcan hdr hY h0 hj
      gi_wp2
      go_end0
      exact .inl ⟨⟨_,rfl⟩,hJ⟩
theorem Tryz.chunk_ok (b o n cap cl:Nat) (hcl:1≤cl) (w:World):Calls Tryz.prog 85 #[.slice (some ⟨b,o,none⟩) n cap,.int .i64 (cl:Int)] w fun e w'=>
    e=.returned (.func (.func 108) #[] #[.pointer (some ⟨w.heap.size,0,none⟩),.pointer (some ⟨w.heap.size+1,0,none⟩)])∧w'=(w.alloc (.cells #[.slice (some ⟨b,o,none⟩) n cap] 25)).alloc (.cells #[.int .i64 (cl:Int)] 3):=by
  have hmf:∀ (fn:Fn) (first cap:Array Value) (w:World),(Instr.makeFunc fn first cap).run Tryz.prog w=.ok (.func fn first cap) w:=fun _ _ _ _=>rfl
  have hc:¬ (cl:Int) < 1:=by omega
  go_enter Tryz.func85,Tryz.ntmps85
  go_wp2
  go_ret
  exact⟨rfl,rfl⟩
end Go.Rt
namespace Go.Rt
open Go Go.RowKit Go.Shelf Go.Proofs
theorem wpAt_seq_k {f:FuncId} {P:Program} {x y:Code} {Q:Exit→Act→World→Prop} {a:Act} {w:World} (h:∀ K:Act→World→Prop,(∀ a w,wpAt f P y Q a w→K a w)→x.wp P (Exit.then K Q) a w):wpAt f P (Code.seq x y) Q a w:=
  wpAt_seq (wpAt_of_wp (h _ fun _ _ h=>h))
theorem panic_bare {n:Nat} {P:Program} {fn:Func} {R:Ending→World→Prop} {tmps:Array Value} {W:World} {ch:List PanicEntry} (hR:R (.panicked ch) W):
    bodyPostM Fence.wide n P fn R (.panic ch) { tmps:=tmps,defers:=[] } W:=hR
theorem KeepsFrom.wr {W W':World} {g:Nat} (h:Wr g W W') (B:Nat):KeepsFrom B W W':=by
  obtain⟨h1,⟨cs,t,h2,-⟩,-⟩:=h
  refine⟨h1.size,fun k o _ hk ho=>(h1.block k (Array.getElem?_eq_some_iff.1 hk).1 (fun e=>?_)).trans hk⟩
  have e2:k=g:=by simpa using e
  rw[e2,h2]at hk
  cases hk
  cases ho
def Dfr (D:Nat) (W:World):Prop:=W.heap[D]? = some (.deferred (some []))
theorem Dfr.ext {D:Nat} {W W':World} (h:Dfr D W) (hE:Ext W W'):Dfr D W':=(Below.block hE D (Array.getElem?_eq_some_iff.1 h).1).trans h
theorem Dfr.wr {D g:Nat} {W W':World} (h:Dfr D W) (hw:Wr g W W'):Dfr D W':=(KeepsFrom.wr hw 0).same D _ (Nat.zero_le _) h rfl
/-! what a turn of book-keeping leaves -/
theorem Turns.sz {B n:Nat}:Turns B (fun W=>n≤W.heap.size):=fun _ _ _ _ _ _ _ _ h=>by simpa using h
theorem Turns.bxa {B b:Nat} {t:TypeId} {xs:Array Value}:Turns B (fun W=>BxA W b t xs):=fun W l o o' _ ho hc _ h=>
  (World.putObj_heap_other (fun e=>by subst e;rw[show W.heap[b]? = _ from h]at ho;cases ho;cases hc)).trans h
theorem Iw.putObj {lo hi n c l:Nat} {W:World} {a:Option Addr} {xs:List Int} {o o':Obj} (h:Iw lo hi W a n c xs) (ho:W.heap[l]? = Option.some o) (hc:o.isCells=false):Iw lo hi (W.putObj l o') a n c xs:=
  ⟨h.len,let ⟨b,q,k1,k2⟩:=h.lies;⟨b,q,⟨k1.1,k1.2.1,k1.2.2.1,fun _ hi'=>putObj_cell ho hc (k1.cell hi')⟩,k2⟩,h.in64⟩
theorem Turns.iw {B lo hi n c:Nat} {a:Option Addr} {xs:List Int}:Turns B (fun W=>Iw lo hi W a n c xs):=fun _ _ _ _ _ ho hc _ h=>h.putObj ho hc
theorem RowG.putObj {lo hi l:Nat} {W:World} {e:TypeId} {v:Value} {xs:List Int} {o o':Obj} (h:RowG lo hi W e v xs) (ho:W.heap[l]? = some o) (hc:o.isCells=false):RowG lo hi (W.putObj l o') e v xs:=
  ⟨h.1.imp_right fun k=>⟨let ⟨b,c,cur,e1,e2,e3,e4⟩:=k.1;⟨b,c,cur,e1,e2,(World.putObj_heap_other (fun e=>by subst e;rw[e3]at ho;cases ho;cases hc)).trans e3,e4⟩,k.2⟩,h.2⟩
theorem Turns.rowG {B lo:Nat} {e:TypeId} {v:Value} {xs:List Int}:Turns B (fun W=>RowG lo W.heap.size W e v xs):=fun W l _ o' _ ho hc _ h=>by
  have:=RowG.putObj (o':=o') h ho hc
  rwa [show W.heap.size=(W.putObj l o').heap.size by simp]at this
theorem Iw.chunk {lo hi:Nat} {w:World} {b o n c:Nat} {l:List Int} (h:Iw lo hi w (Option.some ⟨b,o,none⟩) n c l) (i m:Nat) (hi':i+m≤n):Iw lo hi w (Option.some ⟨b,o+i,none⟩) m m (outL m fun j=>atL l (i+j)):=by
  have hl:=h.len
  have hcap:=h.cap
  refine⟨by simp[outL],⟨b,o+i,⟨.inl rfl,Nat.le_refl _,by unfold maxLen;omega,fun k hk=>?_⟩,fun hm=>?_⟩,outL_i64 fun j=>?_⟩
  · have:=h.cell (i:=i+k) (by omega)
    rw[show o+i+k=o+(i+k) by omega,this]
    show Option.some (Value.int .i64 (atL l (i+k)))=Option.some (Value.int .i64 (atL (outL m fun j=>atL l (i+j)) k))
    rw[outL_at hk]
  · obtain⟨b',o',e,k1⟩:=h.some (by omega)
    cases e
    exact k1
  · rcases Nat.lt_or_ge (i+j) n with q | q
    · exact h.i64 q
    · have:atL l (i+j)=0:=by unfold atL;rw[List.getD_eq_getElem?_getD,List.getElem?_eq_none (by omega)];rfl
      rw[this]
      exact⟨by decide,by decide⟩
end Go.Rt
