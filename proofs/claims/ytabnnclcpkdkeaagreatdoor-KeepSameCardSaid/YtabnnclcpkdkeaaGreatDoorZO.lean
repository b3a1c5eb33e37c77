/- A range over a function whose iterator k. -/
import Derived.Test.YtabnnclcpkdkeaaGreatDoorZBase
import Derived.RangeFuncNested
import Derived.RangeFuncBound
import Derived.RangeFuncCalls
import Derived.RangeFuncLeaves
import Derived.Shelf.Abstract
import Derived.Shelf.RegionOpen
import Derived.WalkKit
import Derived.OwnWalkIn
import Derived.TacticsInMore
import Derived.LoopNIn
import Derived.LoopIn
namespace Go.Proofs.YtabnnclcpkdkeaaGreatDoor
set_option linter.all false
set_option maxRecDepth 100000
set_option maxHeartbeats 0
open Go.RowKit Go.Shelf
def y4G(B:Nat)(Kp:World->World->Prop)(J:World->Prop)(W:World):Exit->Act->World->Prop
 | .normal,_,W'=>KeepsFrom B W W'/\Kp W W'/\J W'
 | .ret,_,_=>False
 | .exit _,_,_=>False
 | .goto _,_,_=>False
 | .panic _,_,_=>False
 | .outgrown,_,_=>False
def q0e{α:Type}(F:Fence)(n:Nat)(P:Program)(gf:Nat)(lb:Array Value)(encs:α->Array Value)(Ok:List α->α->World->Prop)(Kp St:World->World->Prop)(S:List α->Prop)(w:World):Prop:=
 ∀(l:Nat) (J:List α->World->Prop) (W:World),Chg [] [] w W->w.heap.size<=l->(∀s X X',J s X->St X X'->J s X')->
  (∀pre x X,J pre X->Ok pre x X->YieldAt F (n - 1) P l (encs x) X fun e X'=>e= .returned (.bool true)/\J (pre++ [x]) X'/\Kp X X')->J [] W->
  CallsIn F n P gf (#[.func (.yield l) #[] #[]]++lb) W fun e W'=>(∃v,e= .returned v)/\∃xs,S xs/\J xs W'
theorem y0i{F:Fence}{n:Nat}{P:Program}{α:Type}{g:Operand}{ps:Array Tmp}{assign body:Code}{Q:Exit->Act->World->Prop}{a:Act}{w:World}
  (aU:F.round=none) (h1:1<=n) {gf:Nat} {lb:Array Value} (hg:a.eval g= .func (.func gf) #[] lb) (aE:F.fn gf) (eg:∀args w,(callFunc gf args).run P w= .ok (.enter gf args) w)
  {encs:α->Array Value} (aT:∀x,(encs x).size=ps.size) (Ok:List α->α->World->Prop) (Kp St:World->World->Prop) (S:List α->Prop)
  (aB:q0e F (n - 1) P gf lb encs Ok Kp St S w)
  (a4:∀{A B C:World},Kp A B->Kp B C->Kp A C) (a2:∀(W:World) (l:Nat) (o o':Obj),w.heap.size<=l->W.heap[l]? =some o->o.isCells=false->Kp W (W.putObj l o'))
  (I:List α->World->Prop) (a5:∀s X X',I s X->St X X'->I s X') (a6:∀X X',St X X'->KeepsFrom w.heap.size X X')
  (hI:OwnFrom w.heap.size I) (aI:∀s x X l o o',Ok s x X->w.heap.size<=l->X.heap[l]? =some o->o.isCells=false->Ok s x (X.putObj l o')) (h0:I [] w) (a₁:α->Act)
  (R:∀(l:Nat) (x:α) (W:World) (K:Act->World->Prop),K (a₁ x) W->
   assign.wpIn (F.inRound l) (n - 1 - 1) P (Exit.then K (fun _ _ _=>False)) {tmps:=(ps.zip (encs x)).foldl (fun t (p,v)=>t.setIfInBounds p v) a.tmps,defers:= []} W)
  (a0:∀(l:Nat) (N:List α) (x:α) (W:World),I N W->Ok N x W->body.wpIn (F.inRound l) (n - 1 - 1) P (y4G w.heap.size Kp (I (N++ [x])) W) (a₁ x) W)
  (a1:∀(D:Nat) (xs:List α) (W:World),w.heap.size<=D->S xs->I xs W->W.heap[D]? =some (.deferred (some []))->Q .normal {a with defers:={target:= .collected D,args:= #[]}::a.defers} W):
  (Code.rangeFunc g ps assign body).wpIn F n P Q a w:=by
 refine wpIn_rangeFunc ?_;intro fn aL;rw[aU];obtain⟨L,J⟩:∃L:LoopState->Option Code->Loop,L=fun st pe=>{state:=st,pending:=pe,fn,tmps:=a.tmps,params:=ps,assign,body,defers:=w.heap.size}:=⟨_,rfl⟩;obtain⟨Y,O⟩:∃Y,(w.alloc (.deferred (some []))).alloc (.loop (L .ready none))=Y:=⟨_,rfl⟩;have aH:Y.heap[w.heap.size+1]? =some (.loop (L .ready none)):=by
  rw[<-O];have:=World.alloc_heap_new (w.alloc (.deferred (some []))) (.loop (L .ready none));rwa [oQ]at this
 have aG:Y.heap[w.heap.size]? =some (.deferred (some [])):=by
  rw[<-O];exact(ub _ _ _ wH).trans (World.alloc_heap_new w _)
 have aF:I [] Y:=by rw[<-O];exact hI.alloc _ (hI.alloc _ h0)
 have aJ:Chg [] [] w Y:=by
  rw[<-O];exact Chg.of_below (((wN _ w).alloc wE _).alloc wH _)
 refine⟨w.heap.size+1, [{target:= .collected w.heap.size,args:= #[]}],Y,{target:= .fn (.func gf) lb,args:= #[.func (.yield (w.heap.size+1)) #[] #[]]},Y,gf,
  #[.func (.yield (w.heap.size+1)) #[] #[]]++lb,Y,?_,?_,?_,?_,fun _=>h1,?_⟩
 .rw[<-O,J];exact run_enterLoop_outer _ _ _ _ _
 .simp only[resolve,hg];simp[go_sem]
 .intro f' a7;simp[Target.leads]at a7;subst a7;exact aE
 .simp[invoke,go_sem,eg]
 refine(aB (w.heap.size+1)
  (fun N W=>I N W/\W.heap[w.heap.size+1]? =some (.loop (L .ready none))/\W.heap[w.heap.size]? =some (.deferred (some [])))
  Y aJ wF
  (fun s X X' hs aC=>by
   have hk:=a6 X X' aC;exact⟨a5 s X X' hs.1 aC,hk.same _ _ wF hs.2.1 rfl,hk.same _ _ wE hs.2.2 rfl⟩)
  ?_ ⟨aF,aH,aG⟩).mono ?_
 .rintro N x W ⟨hi,hl,hk⟩ aS;have aR:w.heap.size+1<W.heap.size:=(wI.1 hl).1;have hy:=run_yield (P:=P) (args:=encs x) hl (by rw[J];exact aT x);rw[J]at hy;refine⟨fn,_,assign,body,hy,roundIn_of_wpIn aL (R _ x W _ ⟨_,run_beginRound hl (by rw[J]),?_⟩)⟩;have aO:(W.putObj (w.heap.size+1) (.loop {L .ready none with state:= .busy})).heap[w.heap.size+1]? =some (.loop {L .ready none with state:= .busy}):=World.putObj_heap_same aR;have aN:(W.putObj (w.heap.size+1) (.loop {L .ready none with state:= .busy})).heap[w.heap.size]? =some (.deferred (some [])):=(World.putObj_heap_other wF).trans hk;have aV:Kp W (W.putObj (w.heap.size+1) (.loop {L .ready none with state:= .busy})):=a2 _ _ _ _ wF hl rfl;refine tM (a0 _ N x _ (hI.putObj _ hi wF hl rfl) (aI _ _ _ _ _ _ aS wF hl rfl)) ?_;rintro e a3 W3 hp;cases e with
  | normal=>
   obtain⟨a8,a9,aM⟩:=hp;have U:=a8.same _ _ wF aO rfl;have hr:=run_endRound (P:=P) none U;rw[J]at hr;have aA:=U;rw[J]at aA;refine⟨_,_,hr,rfl,⟨hI.putObj _ aM wF U rfl,?_,(World.putObj_heap_other wF).trans (a8.same _ _ wE aN rfl)⟩,a4 (a4 aV a9) (a2 _ _ _ _ wF U rfl)⟩;rw[J];exact World.putObj_heap_same (wI.1 U).1
  | ret=>exact hp.elim
  | exit id=>exact hp.elim
  | goto t=>exact hp.elim
  | panic ch=>exact hp.elim
  | outgrown=>exact hp.elim
 rintro e W2 ⟨⟨v,rfl⟩,xs,hS,hi,hl,hk⟩;exact⟨none,_,by have:=run_endLoop (P:=P) hl (by rw[J];simp);rw[J]at this;exact this,a1 _ xs _ wE hS (hI.putObj _ hi wF hl rfl) ((World.putObj_heap_other wF).trans hk)⟩
theorem z3n{F:Fence}{n':Nat}{P:Program}{w:World}{a:Act}{o:Oper}{Q:Exit->Act->World->Prop}{ops:Array Oper}{rest:List Oper}(a0:o.guard=none)(s x:Operand)(t:TypeId)
  (ho:o.op= .call {callee:= .builtin .append,args:= #[s,x],argTypes:= #[t,t]})
  (base:Nat) (e:TypeId) (ht:P.underlying t=some (.slice e)) (J:(P.info? e).map (fun i=>(i.zero,i.size,i.bytes))=some (some (.int .u8 0),1,1))
  (v:Value) (A:List UInt8) (hs:a.eval s=v) (L:w.ownsRow base e 1 v A.length (z0c A))
  (xv:Value) (l:List UInt8) (hx:a.eval x=xv) (a1:RdB w xv l) (hl:A.length+l.length<=70368744177664) (I:base<=w.heap.size)
  (h:∀O R w',w'.ownsRow base e 1 (.slice O (A++l).length R) (A++l).length (z0c (A++l))->w.grownBy w' v.ownBlock->wpListIn F n' P ops Q rest (a.put o.dst (.slice O (A++l).length R)) w'):
  wpListIn F n' P ops Q (o::rest) a w:=by
 obtain⟨i,hi,h1,h2,h3⟩:=oq J;refine wpListIn_plain a0 fun K U=>?_;obtain⟨v',w',N,r1,r2,r3,r4⟩:=z4a (P:=P) (w:=w) base t o.type e i (.int .u8 0) 1 1 ht hi h1 h2 h3 rfl wG v A.length (z0c A) L xv l.length (z0c l) a1 (z4X l) (by unfold maxLen;omega) wF I;rw[<-z3B,show A.length+l.length=(A++l).length by simp]at r1;obtain⟨O,R,rfl⟩:=(z0d r1).head;unfold Oper.wpIn;refine⟨?_,?_⟩
 .simp[Oper.about,ho,resolve,Target.leads,gi]
 rw[Oper.semAt_plain F _ _ (by rw[ho];intro c Y;cases Y)];simp[execOp,ho,resolve,invoke,builtin,hs,hx,N,Result.andThen];have h9:=h O R w' r1 r2;simp only[wP]at h9;exact U _ _ h9
theorem y0L{F:Fence}{n':Nat}{P:Program}{w:World}{a:Act}{o:Oper}{Q:Exit->Act->World->Prop}{K:Act->World->Prop}{ops:Array Oper}{E:Prop}(Y:o.guard=none)(s x:Operand)(t:TypeId)
  (ho:o.op= .call {callee:= .builtin .append,args:= #[s,x],argTypes:= #[t,t]})
  (base:Nat) (e:TypeId) (ht:P.underlying t=some (.slice e)) (J:(P.info? e).map (fun i=>(i.zero,i.size,i.bytes))=some (some (.int .u8 0),1,1))
  (v:Value) (A:List UInt8) (hs:a.eval s=v) (L:w.ownsRow base e 1 v A.length (z0c A))
  (xv:Value) (l:List UInt8) (hx:a.eval x=xv) (a0:RdB w xv l) (hl:A.length+l.length<=70368744177664) (I:base<=w.heap.size)
  (h:∀O R w',w'.ownsRow base e 1 (.slice O (A++l).length R) (A++l).length (z0c (A++l))->w.grownBy w' v.ownBlock->K (a.put o.dst (.slice O (A++l).length R)) w'):
  if Region.wanted o (yielded ops a.tmps)=true then Oper.wpIn F n' P o a w K Q else E:=by
 have hw:Region.wanted o (yielded ops a.tmps)=true:=by simp[Region.wanted,Y]
 rw[wZ hw];obtain⟨i,hi,h1,h2,h3⟩:=oq J;obtain⟨v',w',N,r1,r2,r3,r4⟩:=z4a (P:=P) (w:=w) base t o.type e i (.int .u8 0) 1 1 ht hi h1 h2 h3 rfl wG v A.length (z0c A) L xv l.length (z0c l) a0 (z4X l) (by unfold maxLen;omega) wF I;rw[<-z3B,show A.length+l.length=(A++l).length by simp]at r1;obtain⟨O,R,rfl⟩:=(z0d r1).head;unfold Oper.wpIn;refine⟨?_,?_⟩
 .simp[Oper.about,ho,resolve,Target.leads,gi]
 rw[Oper.semAt_plain F _ _ (by rw[ho];intro c U;cases U)];simp[execOp,ho,resolve,invoke,builtin,hs,hx,N,Result.andThen];have h9:=h O R w' r1 r2;simp only[wP]at h9;exact h9
def q0x{α:Type}(F:Fence)(n:Nat)(P:Program)(gf:Nat)(la lb:Array Value)(encs:α->Array Value)(Ok:List α->α->World->Prop)(Kp St:World->World->Prop)(S:List α->Prop)(Fin:World->Prop)(w:World):Prop:=
 ∀(l:Nat) (J:List α->World->Prop) (W:World),Chg [] [] w W->w.heap.size<=l->(∀s X X',J s X->St X X'->J s X')->
  (∀pre x X,J pre X->Ok pre x X->YieldAt F (n - 1) P l (encs x) X fun e X'=>e= .returned (.bool true)/\J (pre++ [x]) X'/\Kp X X')->J [] W->
  CallsIn F n P gf (la++ #[.func (.yield l) #[] #[]]++lb) W fun e W'=>(∃v,e= .returned v)/\(∃xs,S xs/\J xs W')/\Fin W'
theorem z6y{F:Fence}{n:Nat}{P:Program}{α:Type}{g:Operand}{ps:Array Tmp}{assign body:Code}{Q:Exit->Act->World->Prop}{a:Act}{w:World}
  (aV:F.round=none) (h1:1<=n) {gf:Nat} {la lb:Array Value} (hg:a.eval g= .func (.func gf) la lb) (aF:F.fn gf) (eg:∀args w,(callFunc gf args).run P w= .ok (.enter gf args) w)
  {encs:α->Array Value} (aU:∀x,(encs x).size=ps.size) (Ok:List α->α->World->Prop) (Kp St:World->World->Prop) (S:List α->Prop) (Fin:World->Prop)
  (aC:q0x F (n - 1) P gf la lb encs Ok Kp St S Fin w) (a2:∀X l o o',Fin X->w.heap.size<=l->X.heap[l]? =some o->o.isCells=false->Fin (X.putObj l o'))
  (a5:∀{A B C:World},Kp A B->Kp B C->Kp A C) (a4:∀(W:World) (l:Nat) (o o':Obj),w.heap.size<=l->W.heap[l]? =some o->o.isCells=false->Kp W (W.putObj l o'))
  (I:List α->World->Prop) (a6:∀s X X',I s X->St X X'->I s X') (a7:∀X X',St X X'->KeepsFrom w.heap.size X X')
  (hI:OwnFrom w.heap.size I) (aJ:∀s x X l o o',Ok s x X->w.heap.size<=l->X.heap[l]? =some o->o.isCells=false->Ok s x (X.putObj l o')) (h0:I [] w) (a₁:α->Act)
  (R:∀(l:Nat) (x:α) (W:World) (K:Act->World->Prop),K (a₁ x) W->
   assign.wpIn (F.inRound l) (n - 1 - 1) P (Exit.then K (fun _ _ _=>False)) {tmps:=(ps.zip (encs x)).foldl (fun t (p,v)=>t.setIfInBounds p v) a.tmps,defers:= []} W)
  (a0:∀(l:Nat) (N:List α) (x:α) (W:World),I N W->Ok N x W->body.wpIn (F.inRound l) (n - 1 - 1) P (y4G w.heap.size Kp (I (N++ [x])) W) (a₁ x) W)
  (a1:∀(D:Nat) (xs:List α) (W:World),w.heap.size<=D->S xs->Fin W->I xs W->W.heap[D]? =some (.deferred (some []))->Q .normal {a with defers:={target:= .collected D,args:= #[]}::a.defers} W):
  (Code.rangeFunc g ps assign body).wpIn F n P Q a w:=by
 refine wpIn_rangeFunc ?_;intro fn aM;rw[aV];obtain⟨L,J⟩:∃L:LoopState->Option Code->Loop,L=fun st pe=>{state:=st,pending:=pe,fn,tmps:=a.tmps,params:=ps,assign,body,defers:=w.heap.size}:=⟨_,rfl⟩;obtain⟨Y,O⟩:∃Y,(w.alloc (.deferred (some []))).alloc (.loop (L .ready none))=Y:=⟨_,rfl⟩;have aI:Y.heap[w.heap.size+1]? =some (.loop (L .ready none)):=by
  rw[<-O];have:=World.alloc_heap_new (w.alloc (.deferred (some []))) (.loop (L .ready none));rwa [oQ]at this
 have aH:Y.heap[w.heap.size]? =some (.deferred (some [])):=by
  rw[<-O];exact(ub _ _ _ wH).trans (World.alloc_heap_new w _)
 have aG:I [] Y:=by rw[<-O];exact hI.alloc _ (hI.alloc _ h0)
 have aL:Chg [] [] w Y:=by
  rw[<-O];exact Chg.of_below (((wN _ w).alloc wE _).alloc wH _)
 refine⟨w.heap.size+1, [{target:= .collected w.heap.size,args:= #[]}],Y,{target:= .fn (.func gf) lb,args:=la++ #[.func (.yield (w.heap.size+1)) #[] #[]]},Y,gf,
  la++ #[.func (.yield (w.heap.size+1)) #[] #[]]++lb,Y,?_,?_,?_,?_,fun _=>h1,?_⟩
 .rw[<-O,J];exact run_enterLoop_outer _ _ _ _ _
 .simp only[resolve,hg];simp[go_sem]
 .intro f' a8;simp[Target.leads]at a8;subst a8;exact aF
 .simp[invoke,go_sem,eg]
 refine(aC (w.heap.size+1)
  (fun N W=>I N W/\W.heap[w.heap.size+1]? =some (.loop (L .ready none))/\W.heap[w.heap.size]? =some (.deferred (some [])))
  Y aL wF
  (fun s X X' hs aE=>by
   have hk:=a7 X X' aE;exact⟨a6 s X X' hs.1 aE,hk.same _ _ wF hs.2.1 rfl,hk.same _ _ wE hs.2.2 rfl⟩)
  ?_ ⟨aG,aI,aH⟩).mono ?_
 .rintro N x W ⟨hi,hl,hk⟩ aT;have aS:w.heap.size+1<W.heap.size:=(wI.1 hl).1;have hy:=run_yield (P:=P) (args:=encs x) hl (by rw[J];exact aU x);rw[J]at hy;refine⟨fn,_,assign,body,hy,roundIn_of_wpIn aM (R _ x W _ ⟨_,run_beginRound hl (by rw[J]),?_⟩)⟩;have aR:(W.putObj (w.heap.size+1) (.loop {L .ready none with state:= .busy})).heap[w.heap.size+1]? =some (.loop {L .ready none with state:= .busy}):=World.putObj_heap_same aS;have aO:(W.putObj (w.heap.size+1) (.loop {L .ready none with state:= .busy})).heap[w.heap.size]? =some (.deferred (some [])):=(World.putObj_heap_other wF).trans hk;have aX:Kp W (W.putObj (w.heap.size+1) (.loop {L .ready none with state:= .busy})):=a4 _ _ _ _ wF hl rfl;refine tM (a0 _ N x _ (hI.putObj _ hi wF hl rfl) (aJ _ _ _ _ _ _ aT wF hl rfl)) ?_;rintro e a3 W3 hp;cases e with
  | normal=>
   obtain⟨a9,aA,aN⟩:=hp;have U:=a9.same _ _ wF aR rfl;have hr:=run_endRound (P:=P) none U;rw[J]at hr;have aB:=U;rw[J]at aB;refine⟨_,_,hr,rfl,⟨hI.putObj _ aN wF U rfl,?_,(World.putObj_heap_other wF).trans (a9.same _ _ wE aO rfl)⟩,a5 (a5 aX aA) (a4 _ _ _ _ wF U rfl)⟩;rw[J];exact World.putObj_heap_same (wI.1 U).1
  | ret=>exact hp.elim
  | exit id=>exact hp.elim
  | goto t=>exact hp.elim
  | panic ch=>exact hp.elim
  | outgrown=>exact hp.elim
 rintro e W2 ⟨⟨v,rfl⟩,⟨xs,hS,hi,hl,hk⟩,hf⟩;exact⟨none,_,by have:=run_endLoop (P:=P) hl (by rw[J];simp);rw[J]at this;exact this,a1 _ xs _ wE hS (a2 _ _ _ _ hf wF hl rfl) (hI.putObj _ hi wF hl rfl) ((World.putObj_heap_other wF).trans hk)⟩
theorem y4J{W:World}{l:Nat}{o A:Obj}(h:l<W.heap.size):(W.alloc A).putObj l o=(W.putObj l o).alloc A:=by
 unfold World.putObj World.alloc;simp only[World.mk.injEq];simp[Array.setIfInBounds,Array.set_push,h,Nat.lt_succ_of_lt h]
theorem y0b{F:Fence}{n:Nat}{P:Program}{α:Type}{g:Operand}{ps:Array Tmp}{assign body:Code}{Q:Exit->Act->World->Prop}{a:Act}{w:World}
  (aV:F.round=none) (h1:1<=n) {gf:Nat} {la lb:Array Value} (hg:a.eval g= .func (.func gf) la lb) (aG:F.fn gf) (eg:∀args w,(callFunc gf args).run P w= .ok (.enter gf args) w)
  {encs:α->Array Value} (aU:∀x,(encs x).size=ps.size) (Ok:List α->α->World->Prop) (Kp St:World->World->Prop) (S:List α->Prop) (Fin:World->Prop)
  (aE:q0x F (n - 1) P gf la lb encs Ok Kp St S Fin w) (a4:∀X l o o',Fin X->w.heap.size<=l->X.heap[l]? =some o->o.isCells=false->Fin (X.putObj l o'))
  (a6:∀{A B C:World},Kp A B->Kp B C->Kp A C) (a5:∀(W:World) (l:Nat) (o o':Obj),w.heap.size<=l->W.heap[l]? =some o->o.isCells=false->Kp W (W.putObj l o'))
  (I:List α->World->Prop) (a7:∀s X X',I s X->St X X'->I s X') (a8:∀X X',St X X'->KeepsFrom w.heap.size X X')
  (hI:OwnFrom w.heap.size I) (aL:∀s x X l o o',Ok s x X->w.heap.size<=l->X.heap[l]? =some o->o.isCells=false->Ok s x (X.putObj l o')) (h0:I [] w) (o₁:α->Obj) (a₁:α->Nat->Act)
  (R:∀(l:Nat) (x:α) (W:World) (K:Act->World->Prop),K (a₁ x W.heap.size) (W.alloc (o₁ x))->
   assign.wpIn (F.inRound l) (n - 1 - 1) P (Exit.then K (fun _ _ _=>False)) {tmps:=(ps.zip (encs x)).foldl (fun t (p,v)=>t.setIfInBounds p v) a.tmps,defers:= []} W)
  (a0:∀(l:Nat) (N:List α) (x:α) (W:World),I N W->Ok N x W->body.wpIn (F.inRound l) (n - 1 - 1) P (y4G w.heap.size Kp (I (N++ [x])) W) (a₁ x W.heap.size) (W.alloc (o₁ x)))
  (a1:∀(D:Nat) (xs:List α) (W:World),w.heap.size<=D->S xs->Fin W->I xs W->W.heap[D]? =some (.deferred (some []))->Q .normal {a with defers:={target:= .collected D,args:= #[]}::a.defers} W):
  (Code.rangeFunc g ps assign body).wpIn F n P Q a w:=by
 refine wpIn_rangeFunc ?_;intro fn aN;rw[aV];obtain⟨L,J⟩:∃L:LoopState->Option Code->Loop,L=fun st pe=>{state:=st,pending:=pe,fn,tmps:=a.tmps,params:=ps,assign,body,defers:=w.heap.size}:=⟨_,rfl⟩;obtain⟨Y,O⟩:∃Y,(w.alloc (.deferred (some []))).alloc (.loop (L .ready none))=Y:=⟨_,rfl⟩;have aJ:Y.heap[w.heap.size+1]? =some (.loop (L .ready none)):=by
  rw[<-O];have:=World.alloc_heap_new (w.alloc (.deferred (some []))) (.loop (L .ready none));rwa [oQ]at this
 have aI:Y.heap[w.heap.size]? =some (.deferred (some [])):=by
  rw[<-O];exact(ub _ _ _ wH).trans (World.alloc_heap_new w _)
 have aH:I [] Y:=by rw[<-O];exact hI.alloc _ (hI.alloc _ h0)
 have aM:Chg [] [] w Y:=by
  rw[<-O];exact Chg.of_below (((wN _ w).alloc wE _).alloc wH _)
 refine⟨w.heap.size+1, [{target:= .collected w.heap.size,args:= #[]}],Y,{target:= .fn (.func gf) lb,args:=la++ #[.func (.yield (w.heap.size+1)) #[] #[]]},Y,gf,
  la++ #[.func (.yield (w.heap.size+1)) #[] #[]]++lb,Y,?_,?_,?_,?_,fun _=>h1,?_⟩
 .rw[<-O,J];exact run_enterLoop_outer _ _ _ _ _
 .simp only[resolve,hg];simp[go_sem]
 .intro f' a9;simp[Target.leads]at a9;subst a9;exact aG
 .simp[invoke,go_sem,eg]
 refine(aE (w.heap.size+1)
  (fun N W=>I N W/\W.heap[w.heap.size+1]? =some (.loop (L .ready none))/\W.heap[w.heap.size]? =some (.deferred (some [])))
  Y aM wF
  (fun s X X' hs aF=>by
   have hk:=a8 X X' aF;exact⟨a7 s X X' hs.1 aF,hk.same _ _ wF hs.2.1 rfl,hk.same _ _ wE hs.2.2 rfl⟩)
  ?_ ⟨aH,aJ,aI⟩).mono ?_
 .rintro N x W ⟨hi,hl,hk⟩ aT;have a2:w.heap.size+1<W.heap.size:=(wI.1 hl).1;have hy:=run_yield (P:=P) (args:=encs x) hl (by rw[J];exact aU x);rw[J]at hy;refine⟨fn,_,assign,body,hy,roundIn_of_wpIn aN (R _ x W _ ⟨_,run_beginRound ((ub W _ _ a2).trans hl) (by rw[J]),?_⟩)⟩;have aS:(W.putObj (w.heap.size+1) (.loop {L .ready none with state:= .busy})).heap[w.heap.size+1]? =some (.loop {L .ready none with state:= .busy}):=World.putObj_heap_same a2;have aR:(W.putObj (w.heap.size+1) (.loop {L .ready none with state:= .busy})).heap[w.heap.size]? =some (.deferred (some [])):=(World.putObj_heap_other wF).trans hk;have aX:Kp W (W.putObj (w.heap.size+1) (.loop {L .ready none with state:= .busy})):=a5 _ _ _ _ wF hl rfl;rw[y4J a2,show W.heap.size=(W.putObj (w.heap.size+1) (.loop {L .ready none with state:= .busy})).heap.size by simp];refine tM (a0 _ N x _ (hI.putObj _ hi wF hl rfl) (aL _ _ _ _ _ _ aT wF hl rfl)) ?_;rintro e a3 W3 hp;cases e with
  | normal=>
   obtain⟨aA,aB,aO⟩:=hp;have U:=aA.same _ _ wF aS rfl;have hr:=run_endRound (P:=P) none U;rw[J]at hr;have aC:=U;rw[J]at aC;refine⟨_,_,hr,rfl,⟨hI.putObj _ aO wF U rfl,?_,(World.putObj_heap_other wF).trans (aA.same _ _ wE aR rfl)⟩,a6 (a6 aX aB) (a5 _ _ _ _ wF U rfl)⟩;rw[J];exact World.putObj_heap_same (wI.1 U).1
  | ret=>exact hp.elim
  | exit id=>exact hp.elim
  | goto t=>exact hp.elim
  | panic ch=>exact hp.elim
  | outgrown=>exact hp.elim
 rintro e W2 ⟨⟨v,rfl⟩,⟨xs,hS,hi,hl,hk⟩,hf⟩;exact⟨none,_,by have:=run_endLoop (P:=P) hl (by rw[J];simp);rw[J]at this;exact this,a1 _ xs _ wE hS (a4 _ _ _ _ hf wF hl rfl) (hI.putObj _ hi wF hl rfl) ((World.putObj_heap_other wF).trans hk)⟩
