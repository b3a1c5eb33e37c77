/-
  A range over a function whose iterator keeps state in cells of its own, where each round goes on: one law, over whatever program; append in a fence.
-/
import Derived.RangeFuncNested
import Derived.RangeFuncBound
import Derived.RangeFuncCalls
import Derived.RangeFuncLeaves
import Derived.Shelf.Abstract
import Derived.Shelf.RegionOpen
import Derived.WalkKit
import Derived.OwnWalkIn
import Derived.TacticsInMore
import Derived.LoopNIn
import Derived.LoopIn
import Derived.Test.YtpocjegemokjgaaGreatDoorZChNChAChB
namespace Go.Proofs.YtpocjegemokjgaaGreatDoor
open Go.Proofs.Tryz
set_option linter.unnecessarySimpa false
set_option linter.all false
set_option maxRecDepth 100000
set_option maxHeartbeats 12800000
open Go.RowKit Go.Shelf
def y3J(B:Nat)(Kp:World->World->Prop)(J:World->Prop)(W:World):Exit->Act->World->Prop
 | .normal,_,W'=>KeepsFrom B W W'/\Kp W W'/\J W'
 | .ret,_,_=>False
 | .exit _,_,_=>False
 | .goto _,_,_=>False
 | .panic _,_,_=>False
 | .outgrown,_,_=>False
def y7V{α:Type}(F:Fence)(n:Nat)(P:Program)(gf:Nat)(lb:Array Value)(encs:α->Array Value)(Ok:List α->α->World->Prop)(Kp St:World->World->Prop)(S:List α->Prop)(w:World):Prop:=
 ∀(l:Nat) (J:List α->World->Prop) (W:World),Chg [] [] w W->w.heap.size<=l->(∀s X X',J s X->St X X'->J s X')->
  (∀pre x X,J pre X->Ok pre x X->YieldAt F (n - 1) P l (encs x) X fun e X'=>e= .returned (.bool true)/\J (pre++ [x]) X'/\Kp X X')->J [] W->
  CallsIn F n P gf (#[.func (.yield l) #[] #[]]++lb) W fun e W'=>(∃v,e= .returned v)/\∃xs,S xs/\J xs W'
theorem z9k{F:Fence}{n:Nat}{P:Program}{α:Type}{g:Operand}{ps:Array Tmp}{assign body:Code}{Q:Exit->Act->World->Prop}{a:Act}{w:World}
  (aU:F.round=none) (h1:1<=n) {gf:Nat} {lb:Array Value} (hg:a.eval g= .func (.func gf) #[] lb) (aE:F.fn gf) (eg:∀args w,(callFunc gf args).run P w= .ok (.enter gf args) w)
  {encs:α->Array Value} (aT:∀x,(encs x).size=ps.size) (Ok:List α->α->World->Prop) (Kp St:World->World->Prop) (S:List α->Prop)
  (aB:y7V F (n - 1) P gf lb encs Ok Kp St S w)
  (a4:∀{A B C:World},Kp A B->Kp B C->Kp A C) (a2:∀(W:World) (l:Nat) (o o':Obj),w.heap.size<=l->W.heap[l]? =some o->o.isCells=false->Kp W (W.putObj l o'))
  (I:List α->World->Prop) (a5:∀s X X',I s X->St X X'->I s X') (a6:∀X X',St X X'->KeepsFrom w.heap.size X X')
  (hI:OwnFrom w.heap.size I) (aI:∀s x X l o o',Ok s x X->w.heap.size<=l->X.heap[l]? =some o->o.isCells=false->Ok s x (X.putObj l o')) (h0:I [] w) (a₁:α->Act)
  (O:∀(l:Nat) (x:α) (W:World) (K:Act->World->Prop),K (a₁ x) W->
   assign.wpIn (F.inRound l) (n - 1 - 1) P (Exit.then K (fun _ _ _=>False)) {tmps:=(ps.zip (encs x)).foldl (fun t (p,v)=>t.setIfInBounds p v) a.tmps,defers:= []} W)
  (a0:∀(l:Nat) (pre:List α) (x:α) (W:World),I pre W->Ok pre x W->body.wpIn (F.inRound l) (n - 1 - 1) P (y3J w.heap.size Kp (I (pre++ [x])) W) (a₁ x) W)
  (a1:∀(D:Nat) (xs:List α) (W:World),w.heap.size<=D->S xs->I xs W->W.heap[D]? =some (.deferred (some []))->Q .normal {a with defers:={target:= .collected D,args:= #[]}::a.defers} W):
  (Code.rangeFunc g ps assign body).wpIn F n P Q a w:=by
 refine wpIn_rangeFunc ?_;intro fn aL;rw[aU];obtain⟨L,J⟩:∃L:LoopState->Option Code->Loop,L=fun st pe=>{state:=st,pending:=pe,fn,tmps:=a.tmps,params:=ps,assign,body,defers:=w.heap.size}:=⟨_,rfl⟩;obtain⟨U,N⟩:∃U,(w.alloc (.deferred (some []))).alloc (.loop (L .ready none))=U:=⟨_,rfl⟩;have aH:U.heap[w.heap.size+1]? =some (.loop (L .ready none)):=by
  rw[<-N];have:=World.alloc_heap_new (w.alloc (.deferred (some []))) (.loop (L .ready none));rwa [World.size_alloc]at this
 have aG:U.heap[w.heap.size]? =some (.deferred (some [])):=by
  rw[<-N];exact(Below.heap_alloc _ _ _ (by simp)).trans (World.alloc_heap_new w _)
 have aF:I [] U:=by rw[<-N];exact hI.alloc _ (hI.alloc _ h0)
 have aJ:Chg [] [] w U:=by
  rw[<-N];exact Chg.of_below (((Below.refl _ w).alloc (Nat.le_refl _) _).alloc (by simp) _)
 refine⟨w.heap.size+1, [{target:= .collected w.heap.size,args:= #[]}],U,{target:= .fn (.func gf) lb,args:= #[.func (.yield (w.heap.size+1)) #[] #[]]},U,gf,
  #[.func (.yield (w.heap.size+1)) #[] #[]]++lb,U,?_,?_,?_,?_,fun _=>h1,?_⟩
 ·rw[<-N,J];exact run_enterLoop_outer _ _ _ _ _
 ·simp only[resolve,hg];simp[go_sem]
 ·intro f' a7;simp[Target.leads]at a7;subst a7;exact aE
 ·simp[invoke,go_sem,eg]
 ·refine(aB (w.heap.size+1)
   (fun pre W=>I pre W/\W.heap[w.heap.size+1]? =some (.loop (L .ready none))/\W.heap[w.heap.size]? =some (.deferred (some [])))
   U aJ (by omega)
   (fun s X X' hs aC=>by
    have hk:=a6 X X' aC;exact⟨a5 s X X' hs.1 aC,hk.same _ _ (by omega) hs.2.1 rfl,hk.same _ _ (Nat.le_refl _) hs.2.2 rfl⟩)
   ?_ ⟨aF,aH,aG⟩).mono ?_
  ·rintro pre x W ⟨hi,Y,hk⟩ aS;have aR:w.heap.size+1<W.heap.size:=(Array.getElem?_eq_some_iff.1 Y).1;have hy:=run_yield (P:=P) (args:=encs x) Y (by rw[J];exact aT x);rw[J]at hy;refine⟨fn,_,assign,body,hy,roundIn_of_wpIn aL (O _ x W _ ⟨_,run_beginRound Y (by rw[J]),?_⟩)⟩;have aO:(W.putObj (w.heap.size+1) (.loop {L .ready none with state:= .busy})).heap[w.heap.size+1]? =some (.loop {L .ready none with state:= .busy}):=World.putObj_heap_same aR;have aN:(W.putObj (w.heap.size+1) (.loop {L .ready none with state:= .busy})).heap[w.heap.size]? =some (.deferred (some [])):=(World.putObj_heap_other (by omega)).trans hk;have aV:Kp W (W.putObj (w.heap.size+1) (.loop {L .ready none with state:= .busy})):=a2 _ _ _ _ (by omega) Y rfl;refine wpIn_mono (a0 _ pre x _ (hI.putObj _ hi (by omega) Y rfl) (aI _ _ _ _ _ _ aS (by omega) Y rfl)) ?_;rintro e a3 W3 hp;cases e with
   | normal=>
    obtain⟨a8,a9,aM⟩:=hp;have R:=a8.same _ _ (by omega) aO rfl;have hr:=run_endRound (P:=P) none R;rw[J]at hr;have aA:=R;rw[J]at aA;refine⟨_,_,hr,rfl,⟨hI.putObj _ aM (by omega) R rfl,?_,(World.putObj_heap_other (by omega)).trans (a8.same _ _ (Nat.le_refl _) aN rfl)⟩,a4 (a4 aV a9) (a2 _ _ _ _ (by omega) R rfl)⟩;rw[J];exact World.putObj_heap_same (Array.getElem?_eq_some_iff.1 R).1
   | ret=>exact hp.elim
   | exit id=>exact hp.elim
   | goto t=>exact hp.elim
   | panic ch=>exact hp.elim
   | outgrown=>exact hp.elim
  ·rintro e W2 ⟨⟨v,rfl⟩,xs,hS,hi,Y,hk⟩;exact⟨none,_,by have:=run_endLoop (P:=P) Y (by rw[J];simp);rw[J]at this;exact this,a1 _ xs _ (Nat.le_refl _) hS (hI.putObj _ hi (by omega) Y rfl) ((World.putObj_heap_other (by omega)).trans hk)⟩
theorem z2W{F:Fence}{n':Nat}{P:Program}{w:World}{a:Act}{o:Oper}{Q:Exit->Act->World->Prop}{ops:Array Oper}{rest:List Oper}(Y:o.guard=none)(s x:Operand)(t:TypeId)
  (ho:o.op= .call {callee:= .builtin .append,args:= #[s,x],argTypes:= #[t,t]})
  (base:Nat) (e:TypeId) (ht:P.underlying t=some (.slice e)) (I:(P.info? e).map (fun i=>(i.zero,i.size,i.bytes))=some (some (.int .u8 0),1,1))
  (v:Value) (A:List UInt8) (hs:a.eval s=v) (J:w.ownsRow base e 1 v A.length (z0b A))
  (xv:Value) (l:List UInt8) (hx:a.eval x=xv) (a0:RdB w xv l) (hl:A.length+l.length<=70368744177664) (B:base<=w.heap.size)
  (h:∀N O w',w'.ownsRow base e 1 (.slice N (A++l).length O) (A++l).length (z0b (A++l))->w.grownBy w' v.ownBlock->wpListIn F n' P ops Q rest (a.put o.dst (.slice N (A++l).length O)) w'):
  wpListIn F n' P ops Q (o::rest) a w:=by
 obtain⟨i,hi,h1,h2,h3⟩:=info_parts I;refine wpListIn_plain Y fun K R=>?_;obtain⟨v',w',L,r1,r2,r3,r4⟩:=z3M (P:=P) (w:=w) base t o.type e i (.int .u8 0) 1 1 ht hi h1 h2 h3 rfl (by decide) v A.length (z0b A) J xv l.length (z0b l) a0 (z4C l) (by unfold maxLen;omega) (by omega) B;rw[<-z3m,show A.length+l.length=(A++l).length by simp]at r1;obtain⟨N,O,rfl⟩:=(z0e r1).head;unfold Oper.wpIn;refine⟨?_,?_⟩
 ·simp[Oper.about,ho,resolve,Target.leads,Sem.run_pure]
 ·rw[Oper.semAt_plain F _ _ (by rw[ho];intro c U;cases U)];simp[execOp,ho,resolve,invoke,builtin,hs,hx,L,Result.andThen];have h9:=h N O w' r1 r2;simp only[List.length_append]at h9;exact R _ _ h9
theorem z9L{F:Fence}{n':Nat}{P:Program}{w:World}{a:Act}{o:Oper}{Q:Exit->Act->World->Prop}{K:Act->World->Prop}{ops:Array Oper}{E:Prop}(U:o.guard=none)(s x:Operand)(t:TypeId)
  (Y:o.op= .call {callee:= .builtin .append,args:= #[s,x],argTypes:= #[t,t]})
  (base:Nat) (e:TypeId) (ht:P.underlying t=some (.slice e)) (I:(P.info? e).map (fun i=>(i.zero,i.size,i.bytes))=some (some (.int .u8 0),1,1))
  (v:Value) (A:List UInt8) (hs:a.eval s=v) (J:w.ownsRow base e 1 v A.length (z0b A))
  (xv:Value) (l:List UInt8) (hx:a.eval x=xv) (a0:RdB w xv l) (hl:A.length+l.length<=70368744177664) (B:base<=w.heap.size)
  (h:∀N O w',w'.ownsRow base e 1 (.slice N (A++l).length O) (A++l).length (z0b (A++l))->w.grownBy w' v.ownBlock->K (a.put o.dst (.slice N (A++l).length O)) w'):
  if Region.wanted o (yielded ops a.tmps)=true then Oper.wpIn F n' P o a w K Q else E:=by
 have hw:Region.wanted o (yielded ops a.tmps)=true:=by simp[Region.wanted,U]
 rw[if_pos hw];obtain⟨i,hi,h1,h2,h3⟩:=info_parts I;obtain⟨v',w',L,r1,r2,r3,r4⟩:=z3M (P:=P) (w:=w) base t o.type e i (.int .u8 0) 1 1 ht hi h1 h2 h3 rfl (by decide) v A.length (z0b A) J xv l.length (z0b l) a0 (z4C l) (by unfold maxLen;omega) (by omega) B;rw[<-z3m,show A.length+l.length=(A++l).length by simp]at r1;obtain⟨N,O,rfl⟩:=(z0e r1).head;unfold Oper.wpIn;refine⟨?_,?_⟩
 ·simp[Oper.about,Y,resolve,Target.leads,Sem.run_pure]
 ·rw[Oper.semAt_plain F _ _ (by rw[Y];intro c R;cases R)];simp[execOp,Y,resolve,invoke,builtin,hs,hx,L,Result.andThen];have h9:=h N O w' r1 r2;simp only[List.length_append]at h9;exact h9
def y8n{α:Type}(F:Fence)(n:Nat)(P:Program)(gf:Nat)(la lb:Array Value)(encs:α->Array Value)(Ok:List α->α->World->Prop)(Kp St:World->World->Prop)(S:List α->Prop)(Fin:World->Prop)(w:World):Prop:=
 ∀(l:Nat) (J:List α->World->Prop) (W:World),Chg [] [] w W->w.heap.size<=l->(∀s X X',J s X->St X X'->J s X')->
  (∀pre x X,J pre X->Ok pre x X->YieldAt F (n - 1) P l (encs x) X fun e X'=>e= .returned (.bool true)/\J (pre++ [x]) X'/\Kp X X')->J [] W->
  CallsIn F n P gf (la++ #[.func (.yield l) #[] #[]]++lb) W fun e W'=>(∃v,e= .returned v)/\(∃xs,S xs/\J xs W')/\Fin W'
theorem z5O{F:Fence}{n:Nat}{P:Program}{α:Type}{g:Operand}{ps:Array Tmp}{assign body:Code}{Q:Exit->Act->World->Prop}{a:Act}{w:World}
  (aV:F.round=none) (h1:1<=n) {gf:Nat} {la lb:Array Value} (hg:a.eval g= .func (.func gf) la lb) (aF:F.fn gf) (eg:∀args w,(callFunc gf args).run P w= .ok (.enter gf args) w)
  {encs:α->Array Value} (aU:∀x,(encs x).size=ps.size) (Ok:List α->α->World->Prop) (Kp St:World->World->Prop) (S:List α->Prop) (Fin:World->Prop)
  (aC:y8n F (n - 1) P gf la lb encs Ok Kp St S Fin w) (a2:∀X l o o',Fin X->w.heap.size<=l->X.heap[l]? =some o->o.isCells=false->Fin (X.putObj l o'))
  (a5:∀{A B C:World},Kp A B->Kp B C->Kp A C) (a4:∀(W:World) (l:Nat) (o o':Obj),w.heap.size<=l->W.heap[l]? =some o->o.isCells=false->Kp W (W.putObj l o'))
  (I:List α->World->Prop) (a6:∀s X X',I s X->St X X'->I s X') (a7:∀X X',St X X'->KeepsFrom w.heap.size X X')
  (hI:OwnFrom w.heap.size I) (aJ:∀s x X l o o',Ok s x X->w.heap.size<=l->X.heap[l]? =some o->o.isCells=false->Ok s x (X.putObj l o')) (h0:I [] w) (a₁:α->Act)
  (O:∀(l:Nat) (x:α) (W:World) (K:Act->World->Prop),K (a₁ x) W->
   assign.wpIn (F.inRound l) (n - 1 - 1) P (Exit.then K (fun _ _ _=>False)) {tmps:=(ps.zip (encs x)).foldl (fun t (p,v)=>t.setIfInBounds p v) a.tmps,defers:= []} W)
  (a0:∀(l:Nat) (pre:List α) (x:α) (W:World),I pre W->Ok pre x W->body.wpIn (F.inRound l) (n - 1 - 1) P (y3J w.heap.size Kp (I (pre++ [x])) W) (a₁ x) W)
  (a1:∀(D:Nat) (xs:List α) (W:World),w.heap.size<=D->S xs->Fin W->I xs W->W.heap[D]? =some (.deferred (some []))->Q .normal {a with defers:={target:= .collected D,args:= #[]}::a.defers} W):
  (Code.rangeFunc g ps assign body).wpIn F n P Q a w:=by
 refine wpIn_rangeFunc ?_;intro fn aM;rw[aV];obtain⟨L,J⟩:∃L:LoopState->Option Code->Loop,L=fun st pe=>{state:=st,pending:=pe,fn,tmps:=a.tmps,params:=ps,assign,body,defers:=w.heap.size}:=⟨_,rfl⟩;obtain⟨U,N⟩:∃U,(w.alloc (.deferred (some []))).alloc (.loop (L .ready none))=U:=⟨_,rfl⟩;have aI:U.heap[w.heap.size+1]? =some (.loop (L .ready none)):=by
  rw[<-N];have:=World.alloc_heap_new (w.alloc (.deferred (some []))) (.loop (L .ready none));rwa [World.size_alloc]at this
 have aH:U.heap[w.heap.size]? =some (.deferred (some [])):=by
  rw[<-N];exact(Below.heap_alloc _ _ _ (by simp)).trans (World.alloc_heap_new w _)
 have aG:I [] U:=by rw[<-N];exact hI.alloc _ (hI.alloc _ h0)
 have aL:Chg [] [] w U:=by
  rw[<-N];exact Chg.of_below (((Below.refl _ w).alloc (Nat.le_refl _) _).alloc (by simp) _)
 refine⟨w.heap.size+1, [{target:= .collected w.heap.size,args:= #[]}],U,{target:= .fn (.func gf) lb,args:=la++ #[.func (.yield (w.heap.size+1)) #[] #[]]},U,gf,
  la++ #[.func (.yield (w.heap.size+1)) #[] #[]]++lb,U,?_,?_,?_,?_,fun _=>h1,?_⟩
 ·rw[<-N,J];exact run_enterLoop_outer _ _ _ _ _
 ·simp only[resolve,hg];simp[go_sem]
 ·intro f' a8;simp[Target.leads]at a8;subst a8;exact aF
 ·simp[invoke,go_sem,eg]
 ·refine(aC (w.heap.size+1)
   (fun pre W=>I pre W/\W.heap[w.heap.size+1]? =some (.loop (L .ready none))/\W.heap[w.heap.size]? =some (.deferred (some [])))
   U aL (by omega)
   (fun s X X' hs aE=>by
    have hk:=a7 X X' aE;exact⟨a6 s X X' hs.1 aE,hk.same _ _ (by omega) hs.2.1 rfl,hk.same _ _ (Nat.le_refl _) hs.2.2 rfl⟩)
   ?_ ⟨aG,aI,aH⟩).mono ?_
  ·rintro pre x W ⟨hi,Y,hk⟩ aT;have aS:w.heap.size+1<W.heap.size:=(Array.getElem?_eq_some_iff.1 Y).1;have hy:=run_yield (P:=P) (args:=encs x) Y (by rw[J];exact aU x);rw[J]at hy;refine⟨fn,_,assign,body,hy,roundIn_of_wpIn aM (O _ x W _ ⟨_,run_beginRound Y (by rw[J]),?_⟩)⟩;have aR:(W.putObj (w.heap.size+1) (.loop {L .ready none with state:= .busy})).heap[w.heap.size+1]? =some (.loop {L .ready none with state:= .busy}):=World.putObj_heap_same aS;have aO:(W.putObj (w.heap.size+1) (.loop {L .ready none with state:= .busy})).heap[w.heap.size]? =some (.deferred (some [])):=(World.putObj_heap_other (by omega)).trans hk;have aX:Kp W (W.putObj (w.heap.size+1) (.loop {L .ready none with state:= .busy})):=a4 _ _ _ _ (by omega) Y rfl;refine wpIn_mono (a0 _ pre x _ (hI.putObj _ hi (by omega) Y rfl) (aJ _ _ _ _ _ _ aT (by omega) Y rfl)) ?_;rintro e a3 W3 hp;cases e with
   | normal=>
    obtain⟨a9,aA,aN⟩:=hp;have R:=a9.same _ _ (by omega) aR rfl;have hr:=run_endRound (P:=P) none R;rw[J]at hr;have aB:=R;rw[J]at aB;refine⟨_,_,hr,rfl,⟨hI.putObj _ aN (by omega) R rfl,?_,(World.putObj_heap_other (by omega)).trans (a9.same _ _ (Nat.le_refl _) aO rfl)⟩,a5 (a5 aX aA) (a4 _ _ _ _ (by omega) R rfl)⟩;rw[J];exact World.putObj_heap_same (Array.getElem?_eq_some_iff.1 R).1
   | ret=>exact hp.elim
   | exit id=>exact hp.elim
   | goto t=>exact hp.elim
   | panic ch=>exact hp.elim
   | outgrown=>exact hp.elim
  ·rintro e W2 ⟨⟨v,rfl⟩,⟨xs,hS,hi,Y,hk⟩,hf⟩;exact⟨none,_,by have:=run_endLoop (P:=P) Y (by rw[J];simp);rw[J]at this;exact this,a1 _ xs _ (Nat.le_refl _) hS (a2 _ _ _ _ hf (by omega) Y rfl) (hI.putObj _ hi (by omega) Y rfl) ((World.putObj_heap_other (by omega)).trans hk)⟩
attribute [local go_sem] Oper.semAt_some
theorem y9N{w w':World}{x:Value}{l:List UInt8}(h:RdB w x l)(I:0<l.length->∀b,x.ownBlock=some b->w'.heap[b]? =w.heap[b]?):RdB w' x l:=by
 by_cases h0:0<l.length
 ·exact h.keep (I h0)
 ·have:l= []:=List.eq_nil_of_length_eq_zero (by omega);subst this;refine⟨h.1,h.2.imp id ?_⟩;rintro⟨A,c',B,L⟩;exact⟨A,c',B,fun j u J=>by simp[z0b]at J⟩
def z7a:Nat->z1M->Nat->List Bool->List z1d×Bool
 | _,_,_, []=>([],true)
 | 0,_,_,_::_=>([],false)
 | f+1,e,k,b::l=>match z1n e (b::l)with
  | none=>([],false)
  | some (s,e',r)=>(⟨s,e',k+((b::l).length - r.length)⟩::(z7a f e' (k+((b::l).length - r.length)) r).1,(z7a f e' (k+((b::l).length - r.length)) r).2)
theorem z7i(f:Nat)(e:z1M)(k:Nat):z7a f e k []=([],true):=by cases f<;>rfl
theorem z9z(f:Nat)(e:z1M)(k:Nat)(b:Bool)(l:List Bool):z7a (f+1) e k (b::l)=match z1n e (b::l)with
  | none=>([],false)
  | some (s,e',r)=>(⟨s,e',k+((b::l).length - r.length)⟩::(z7a f e' (k+((b::l).length - r.length)) r).1,(z7a f e' (k+((b::l).length - r.length)) r).2):=rfl
theorem y9q(f:Nat)(e:z1M)(k:Nat)(b:Bool)(l:List Bool):z3e (f+1) e k (b::l)=match z1n e (b::l)with
  | none=>none
  | some (s,e',r)=>(z3e f e' (k+((b::l).length - r.length)) r).map (⟨s,e',k+((b::l).length - r.length)⟩::·):=rfl
theorem q1W:∀(f:Nat) (e:z1M) (k:Nat) (l:List Bool),z3e f e k l=if(z7a f e k l).2 then some (z7a f e k l).1 else none
 | f,e,k, []=>by rw[z4d,z7i];rfl
 | 0,e,k,b::l=>rfl
 | f+1,e,k,b::l=>by
  rw[y9q,z9z];cases hc:z1n e (b::l)with
  | none=>rfl
  | some q=>
   obtain⟨s,A,r⟩:=q;simp only;rw[q1W f];cases hP:(z7a f A (k+((b::l).length - r.length)) r).2<;>simp
theorem y3n:∀{f:Nat} {e:z1M} {k:Nat} {l:List Bool},e.Ok->∀g,l.length<=f->l.length<=g->z7a f e k l=z7a g e k l
 | f,e,k, [],he,g,hf,hg=>by rw[z7i,z7i]
 | 0,e,k,b::l,he,g,hf,hg=>by simp at hf
 | f+1,e,k,b::l,he,0,hf,hg=>by simp at hg
 | f+1,e,k,b::l,he,g+1,hf,hg=>by
  unfold z7a;split
  ·rfl
  ·rename_i s J r I;have A:=z1N he I;have B:=A.1;simp only[List.length_cons]at B hf hg;rw[y3n A.2.2.1 g (by omega) (by omega)]
def z1T(l:List Bool)(at_:Nat)(x:z1M):List z1d×Bool:=z7a (l.length - at_) x at_ (l.drop at_)
theorem y6M{l:List Bool}{x:z1M}:z1T l l.length x=([],true):=by
 unfold z1T;rw[List.drop_length,z7i]
theorem y6W{l:List Bool}{at_:Nat}{x:z1M}(h:at_<l.length)(A:z1n x (l.drop at_)=none):z1T l at_ x=([],false):=by
 unfold z1T;cases hd:l.drop at_ with
 | nil=>have:=congrArg List.length hd;simp at this;omega
 | cons b r=>
  rw[hd]at A;cases hf:l.length - at_ with
  | zero=>omega
  | succ f=>unfold z7a;rw[A]
theorem y7a{l:List Bool}{at_ p:Nat}{x y:z1M}{s:z1c}(U:x.Ok)(h:at_<l.length)(hp:p<=l.length)(R:at_<p)(B:z1n x (l.drop at_)=some (s,y,l.drop p)):z1T l at_ x=(⟨s,y,p⟩::(z1T l p y).1,(z1T l p y).2):=by
 have Y:=(z1N U B).2.2.1;cases hd:l.drop at_ with
 | nil=>have:=congrArg List.length hd;simp at this;omega
 | cons b r=>
  have A:(b::r).length=l.length - at_:=by rw[<-hd,List.length_drop]
  rw[hd]at B;have J:l.length - at_=(l.length - at_ - 1)+1:=by omega
  obtain⟨f,I⟩:=zN (l.length - at_ - 1);rw[<-I]at J;have L:z1T l at_ x=z7a (f+1) x at_ (b::r):=by unfold z1T;rw[hd,J]
  have N:at_+((b::r).length - (l.drop p).length)=p:=by rw[A,List.length_drop];omega
  have O:z1T l p y=z7a f y p (l.drop p):=by unfold z1T;exact y3n Y _ (by rw[List.length_drop];omega) (by rw[List.length_drop];omega)
  rw[L,z9z,B,O];simp only;rw[N]
theorem q1p(l:List Bool):z5o l=if(z1T l 0 z0h).2 then some (z1T l 0 z0h).1 else none:=q1W _ _ _ _
def wkO(a:Option Addr)(n c N at_:Nat)(x:z1M)(f:Nat):Obj:= .cells #[.slice a n c,.int .i64 N,.int .i64 at_,.int .i64 (x.n:Nat),.int .i64 x.last,.int .i64 x.delta,.bool x.val.has,.int .u64 (x.val.prev:Nat),.int .u8 (x.val.lead:Nat),.int .u8 (x.val.width:Nat),.int .u16 f] 174 (0,0)
def q4l(st:List z1d)(rB:Nat)(a:Option Addr)(n c N:Nat)(pre:List z1d)(x:z1d)(W:World):Prop:=
 (∃r,pre++x::r=st)/\W.heap[rB]? =some (wkO a n c N x.at_ x.e 0)
def q5J(B h:Nat)(W W':World):Prop:=W.heap.size<=W'.heap.size/\∀k,k<B->k≠h->W'.heap[k]? =W.heap[k]?
def y8M(rB:Nat)(X X':World):Prop:=Chg [rB] [] X X'
def z8a(st:List z1d×Bool)(rB:Nat)(a:Option Addr)(n c N:Nat)(W:World):Prop:=
 W.heap[rB]? =some (if st.2 then wkO a n c N N (z0m z0h st.1) 0 else wkO a n c N 0 z0h 61)
def q0P(rB:Nat)(w:World):Nat:=match w.cell? ⟨rB,2,none⟩with|some (.int _ n)=>n.toNat|_=>0
def wkW(w:World)(rB at_:Nat)(x:z1M)(f:Nat):World:=
 ((((((((w.setCell ⟨rB,2,none⟩ (.int .i64 at_)).setCell ⟨rB,3,none⟩ (.int .i64 (x.n:Nat))).setCell ⟨rB,4,none⟩ (.int .i64 x.last)).setCell ⟨rB,5,none⟩ (.int .i64 x.delta)).setCell ⟨rB,6,none⟩ (.bool x.val.has)).setCell ⟨rB,7,none⟩ (.int .u64 (x.val.prev:Nat))).setCell ⟨rB,8,none⟩ (.int .u8 (x.val.lead:Nat))).setCell ⟨rB,9,none⟩ (.int .u8 (x.val.width:Nat))).setCell ⟨rB,10,none⟩ (.int .u16 f)
theorem y5q{w:World}{b:Nat}{t:TypeId}{fr:Nat×Nat}{B I y2 y3 y4 Y U O N J A:Value}(h:w.heap[b]? =some (.cells #[B,I,y2,y3,y4,Y,U,O,N,J,A] t fr))(x0 x1 x2 x3 x4 x5 x6 L R:Value):(((((((((w.setCell ⟨b,2,none⟩ x0).setCell ⟨b,3,none⟩ x1).setCell ⟨b,4,none⟩ x2).setCell ⟨b,5,none⟩ x3).setCell ⟨b,6,none⟩ x4).setCell ⟨b,7,none⟩ x5).setCell ⟨b,8,none⟩ x6).setCell ⟨b,9,none⟩ L).setCell ⟨b,10,none⟩ R).heap[b]? =some (.cells #[B,I,x0,x1,x2,x3,x4,x5,x6,L,R] t fr):=by
 have h0:(w.setCell ⟨b,2,none⟩ x0).heap[b]? =some (.cells #[B,I,x0,y3,y4,Y,U,O,N,J,A] t fr):=z0a h 2 x0;have h1:((w.setCell ⟨b,2,none⟩ x0).setCell ⟨b,3,none⟩ x1).heap[b]? =some (.cells #[B,I,x0,x1,y4,Y,U,O,N,J,A] t fr):=z0a h0 3 x1;have h2:(((w.setCell ⟨b,2,none⟩ x0).setCell ⟨b,3,none⟩ x1).setCell ⟨b,4,none⟩ x2).heap[b]? =some (.cells #[B,I,x0,x1,x2,Y,U,O,N,J,A] t fr):=z0a h1 4 x2;have h3:((((w.setCell ⟨b,2,none⟩ x0).setCell ⟨b,3,none⟩ x1).setCell ⟨b,4,none⟩ x2).setCell ⟨b,5,none⟩ x3).heap[b]? =some (.cells #[B,I,x0,x1,x2,x3,U,O,N,J,A] t fr):=z0a h2 5 x3;have h4:(((((w.setCell ⟨b,2,none⟩ x0).setCell ⟨b,3,none⟩ x1).setCell ⟨b,4,none⟩ x2).setCell ⟨b,5,none⟩ x3).setCell ⟨b,6,none⟩ x4).heap[b]? =some (.cells #[B,I,x0,x1,x2,x3,x4,O,N,J,A] t fr):=z0a h3 6 x4;have h5:((((((w.setCell ⟨b,2,none⟩ x0).setCell ⟨b,3,none⟩ x1).setCell ⟨b,4,none⟩ x2).setCell ⟨b,5,none⟩ x3).setCell ⟨b,6,none⟩ x4).setCell ⟨b,7,none⟩ x5).heap[b]? =some (.cells #[B,I,x0,x1,x2,x3,x4,x5,N,J,A] t fr):=z0a h4 7 x5;have h6:(((((((w.setCell ⟨b,2,none⟩ x0).setCell ⟨b,3,none⟩ x1).setCell ⟨b,4,none⟩ x2).setCell ⟨b,5,none⟩ x3).setCell ⟨b,6,none⟩ x4).setCell ⟨b,7,none⟩ x5).setCell ⟨b,8,none⟩ x6).heap[b]? =some (.cells #[B,I,x0,x1,x2,x3,x4,x5,x6,J,A] t fr):=z0a h5 8 x6
 have h7:((((((((w.setCell ⟨b,2,none⟩ x0).setCell ⟨b,3,none⟩ x1).setCell ⟨b,4,none⟩ x2).setCell ⟨b,5,none⟩ x3).setCell ⟨b,6,none⟩ x4).setCell ⟨b,7,none⟩ x5).setCell ⟨b,8,none⟩ x6).setCell ⟨b,9,none⟩ L).heap[b]? =some (.cells #[B,I,x0,x1,x2,x3,x4,x5,x6,L,A] t fr):=z0a h6 9 L;have h8:(((((((((w.setCell ⟨b,2,none⟩ x0).setCell ⟨b,3,none⟩ x1).setCell ⟨b,4,none⟩ x2).setCell ⟨b,5,none⟩ x3).setCell ⟨b,6,none⟩ x4).setCell ⟨b,7,none⟩ x5).setCell ⟨b,8,none⟩ x6).setCell ⟨b,9,none⟩ L).setCell ⟨b,10,none⟩ R).heap[b]? =some (.cells #[B,I,x0,x1,x2,x3,x4,x5,x6,L,R] t fr):=z0a h7 10 R;exact h8
theorem y4t{w:World}{b:Nat}{t:TypeId}{fr:Nat×Nat}{B I y2 y3 Y U R N L J A:Value}(h:w.heap[b]? =some (.cells #[B,I,y2,y3,Y,U,R,N,L,J,A] t fr))(x0 x1 x2 x3 x4 x5 x6 O:Value):((((((((w.setCell ⟨b,2,none⟩ x0).setCell ⟨b,3,none⟩ x1).setCell ⟨b,4,none⟩ x2).setCell ⟨b,5,none⟩ x3).setCell ⟨b,6,none⟩ x4).setCell ⟨b,7,none⟩ x5).setCell ⟨b,8,none⟩ x6).setCell ⟨b,9,none⟩ O).heap[b]? =some (.cells #[B,I,x0,x1,x2,x3,x4,x5,x6,O,A] t fr):=by
 have h0:(w.setCell ⟨b,2,none⟩ x0).heap[b]? =some (.cells #[B,I,x0,y3,Y,U,R,N,L,J,A] t fr):=z0a h 2 x0;have h1:((w.setCell ⟨b,2,none⟩ x0).setCell ⟨b,3,none⟩ x1).heap[b]? =some (.cells #[B,I,x0,x1,Y,U,R,N,L,J,A] t fr):=z0a h0 3 x1;have h2:(((w.setCell ⟨b,2,none⟩ x0).setCell ⟨b,3,none⟩ x1).setCell ⟨b,4,none⟩ x2).heap[b]? =some (.cells #[B,I,x0,x1,x2,U,R,N,L,J,A] t fr):=z0a h1 4 x2;have h3:((((w.setCell ⟨b,2,none⟩ x0).setCell ⟨b,3,none⟩ x1).setCell ⟨b,4,none⟩ x2).setCell ⟨b,5,none⟩ x3).heap[b]? =some (.cells #[B,I,x0,x1,x2,x3,R,N,L,J,A] t fr):=z0a h2 5 x3;have h4:(((((w.setCell ⟨b,2,none⟩ x0).setCell ⟨b,3,none⟩ x1).setCell ⟨b,4,none⟩ x2).setCell ⟨b,5,none⟩ x3).setCell ⟨b,6,none⟩ x4).heap[b]? =some (.cells #[B,I,x0,x1,x2,x3,x4,N,L,J,A] t fr):=z0a h3 6 x4;have h5:((((((w.setCell ⟨b,2,none⟩ x0).setCell ⟨b,3,none⟩ x1).setCell ⟨b,4,none⟩ x2).setCell ⟨b,5,none⟩ x3).setCell ⟨b,6,none⟩ x4).setCell ⟨b,7,none⟩ x5).heap[b]? =some (.cells #[B,I,x0,x1,x2,x3,x4,x5,L,J,A] t fr):=z0a h4 7 x5;have h6:(((((((w.setCell ⟨b,2,none⟩ x0).setCell ⟨b,3,none⟩ x1).setCell ⟨b,4,none⟩ x2).setCell ⟨b,5,none⟩ x3).setCell ⟨b,6,none⟩ x4).setCell ⟨b,7,none⟩ x5).setCell ⟨b,8,none⟩ x6).heap[b]? =some (.cells #[B,I,x0,x1,x2,x3,x4,x5,x6,J,A] t fr):=z0a h5 8 x6
 have h7:((((((((w.setCell ⟨b,2,none⟩ x0).setCell ⟨b,3,none⟩ x1).setCell ⟨b,4,none⟩ x2).setCell ⟨b,5,none⟩ x3).setCell ⟨b,6,none⟩ x4).setCell ⟨b,7,none⟩ x5).setCell ⟨b,8,none⟩ x6).setCell ⟨b,9,none⟩ O).heap[b]? =some (.cells #[B,I,x0,x1,x2,x3,x4,x5,x6,O,A] t fr):=z0a h6 9 O;exact h7
theorem y4x{w:World}{b:Nat}{t:TypeId}{fr:Nat×Nat}{B I y2 J L N O R U Y A:Value}(h:w.heap[b]? =some (.cells #[B,I,y2,J,L,N,O,R,U,Y,A] t fr))(x:Value):(w.setCell ⟨b,2,none⟩ x).heap[b]? =some (.cells #[B,I,x,J,L,N,O,R,U,Y,A] t fr):=z0a h 2 x
theorem q3O{w:World}{B:Nat}{a:Option Addr}{n c N A I:Nat}{x0:z1M}(h:w.heap[B]? =some (wkO a n c N A x0 I))(at_:Nat)(x:z1M)(f:Nat):(wkW w B at_ x f).heap[B]? =some (wkO a n c N at_ x f):=
 y5q h _ _ _ _ _ _ _ _ _
theorem y6I(w:World)(A at_:Nat)(x:z1M)(f k:Nat)(h:k≠A):(wkW w A at_ x f).heap[k]? =w.heap[k]? :=by
 unfold wkW;rw[q7 h,q7 h,q7 h,q7 h,q7 h,q7 h,q7 h,q7 h,q7 h]
theorem z6H(w:World)(a:Addr)(u:Value):(w.setCell a u).heap.size=w.heap.size:=by simp[World.setCell]
theorem q5c(w:World)(a:Addr)(u:Value):(w.setCell a u).os=w.os:=rfl
theorem q2s(w:World)(a:Addr)(u:Value):(w.setCell a u).tape=w.tape:=rfl
theorem y6X(w:World)(a:Addr)(u:Value):(w.setCell a u).output=w.output:=rfl
theorem q5q{w A:World}{B:Nat}(hb:Below w.heap.size w A)(at_:Nat)(x:z1M)(f:Nat):y8M B w (wkW A B at_ x f):=by
 have N:(wkW A B at_ x f).heap.size=A.heap.size:=by unfold wkW;simp only[z6H]
 have L:(wkW A B at_ x f).os=A.os:=by unfold wkW;simp only[q5c]
 have O:(wkW A B at_ x f).tape=A.tape:=by unfold wkW;simp only[q2s]
 have R:(wkW A B at_ x f).output=A.output:=by unfold wkW;simp only[y6X]
 exact⟨L.trans hb.os,O.trans hb.tape,R.trans hb.output,by rw[N];exact hb.size,fun k I J=>(y6I A B at_ x f k (by simpa using J)).trans (hb.block k I),fun k I=>by cases I⟩
structure CgS (W3:World) (f1 f2 f3 f4:World->World) (D:Nat->Bool) (v:Nat->Value) (w':World):Prop where
 no:D 21=false->Below W3.heap.size W3 w'
 s1:D 21=true->D 24=false->∃wc,Below W3.heap.size W3 wc/\w'=f1 wc
 s2:D 24=true->D 27=false->∃wc,Below W3.heap.size W3 wc/\w'=f2 (f1 wc)
 s3:D 27=true->D 30=false->∃wc,Below W3.heap.size W3 wc/\w'=f3 (f2 (f1 wc))
 s4:D 30=true->∃wc,Below W3.heap.size W3 wc/\w'=f4 (f3 (f2 (f1 wc)))
section
variable {W3 w':World} {f1 f2 f3 f4:World->World} {D:Nat->Bool} {v:Nat->Value}
theorem CgS.t1(h:Below W3.heap.size W3 w')(B:D 24=false)(I:D 27=false)(J:D 30=false):CgS W3 f1 f2 f3 f4 (mark D 21) v (f1 w'):=
 ⟨fun e=>(by have A:true=false:=e;cases A),fun _ _=>⟨w',h,rfl⟩,fun e=>(by have A:D 24=true:=e;rw[B]at A;cases A),fun e=>(by have A:D 27=true:=e;rw[I]at A;cases A),fun e=>(by have A:D 30=true:=e;rw[J]at A;cases A)⟩
theorem CgS.t2(h:Below W3.heap.size W3 w')(B:D 21=true)(I:D 27=false)(J:D 30=false):CgS W3 f1 f2 f3 f4 (mark D 24) v (f2 (f1 w')):=
 ⟨fun e=>(by have A:D 21=false:=e;rw[B]at A;cases A),fun _ e=>(by have A:true=false:=e;cases A),fun _ _=>⟨w',h,rfl⟩,fun e=>(by have A:D 27=true:=e;rw[I]at A;cases A),fun e=>(by have A:D 30=true:=e;rw[J]at A;cases A)⟩
theorem CgS.t3(h:Below W3.heap.size W3 w')(B:D 21=true)(I:D 24=true)(J:D 30=false):CgS W3 f1 f2 f3 f4 (mark D 27) v (f3 (f2 (f1 w'))):=
 ⟨fun e=>(by have A:D 21=false:=e;rw[B]at A;cases A),fun _ e=>(by have A:D 24=false:=e;rw[I]at A;cases A),fun _ e=>(by have A:true=false:=e;cases A),fun _ _=>⟨w',h,rfl⟩,fun e=>(by have A:D 30=true:=e;rw[J]at A;cases A)⟩
theorem CgS.t4(h:Below W3.heap.size W3 w')(B:D 21=true)(I:D 24=true)(J:D 27=true):CgS W3 f1 f2 f3 f4 (mark D 30) v (f4 (f3 (f2 (f1 w')))):=
 ⟨fun e=>(by have A:D 21=false:=e;rw[B]at A;cases A),fun _ e=>(by have A:D 24=false:=e;rw[I]at A;cases A),fun _ e=>(by have A:D 27=false:=e;rw[J]at A;cases A),fun _ e=>(by have A:true=false:=e;cases A),fun _=>⟨w',h,rfl⟩⟩
end
structure q6f (l:List Bool) (at_:Nat) (x:z1M) (st:Int) (sv at2:Nat) (y:z1M) (f:Nat):Prop where
 ok:f=0->z1T l at_ x=(⟨⟨st,sv⟩,y,at2⟩::(z1T l at2 y).1,(z1T l at2 y).2)/\at_<at2/\at2<=l.length/\y.Ok/\y.n=x.n+1
 bad:f≠0->z1T l at_ x=([],false)/\at2=0/\y=z0h/\f=61
theorem q3r{l:List Bool}{p q:Nat}(A:p<=l.length)(B:q<=l.length)(h:l.drop p=l.drop q):p=q:=by
 have:=congrArg List.length h;simp only[List.length_drop]at this;omega
theorem q5f(a:Option Addr)(n c:Nat)(l:List Bool)(b:List UInt8)(at_:Nat)(x:z1M)(R:x.Ok)(N:x.n<=1099511627776)(hl:l.length<=549755813000)(O:at_<l.length):
  ∃st sv at2 y f,q6f l at_ x st sv at2 y f/\∀w,z0r w a n c l b->z1u w->Calls prog 118 #[.agg #[.slice a n c,.int .i64 l.length],.int .i64 at_,.agg #[.int .i64 (x.n:Nat),.int .i64 x.last,.int .i64 x.delta,.bool x.val.has,.int .u64 (x.val.prev:Nat),.int .u8 (x.val.lead:Nat),.int .u8 (x.val.width:Nat)]] w fun e w'=>
   e= .returned (.tuple #[.agg #[.int .i64 st,.int .u64 (sv:Nat)],.int .i64 (at2:Nat),.agg #[.int .i64 (y.n:Nat),.int .i64 y.last,.int .i64 y.delta,.bool y.val.has,.int .u64 (y.val.prev:Nat),.int .u8 (y.val.lead:Nat),.int .u8 (y.val.width:Nat)],.int .u16 (f:Nat)])/\Below w.heap.size w w':=by
 cases hc:z1n x (l.drop at_)with
 | none=>
  refine⟨0,0,0,z0h,61,⟨(fun h=>by cases h),fun _=>⟨y6W O hc,rfl,rfl,rfl⟩⟩,fun w hb U=>?_⟩;refine(q2O a n c l b at_ x.n x.last x.delta x.val.has x.val.prev x.val.lead x.val.width R N w hb hl (Nat.le_of_lt O) U).mono ?_;rintro e w' ⟨B,h|h⟩
  ·obtain⟨s,y,p,A,_⟩:=h;have A:z1n x (l.drop at_)=_:=A;rw[hc]at A;cases A
  ·exact⟨h.2,B⟩
 | some q=>
  obtain⟨s,y,r⟩:=q;obtain⟨q,hq,_⟩:=z8D hc;have I:=z1N R hc;have L:=congrArg List.length hq;rw[List.length_append,List.length_drop]at L;have hr:r=l.drop (at_+q.length):=by
   rw[<-List.drop_drop,hq,List.drop_left]
  have Y:=I.1;rw[List.length_drop]at Y;have hp:at_+q.length<=l.length:=by omega
  have J:at_<at_+q.length:=by omega
  rw[hr]at hc;refine⟨s.t,s.v,at_+q.length,y,0,⟨fun _=>⟨y7a R O hp J hc,J,hp,I.2.2.1,I.2.2.2.1⟩,fun h=>absurd rfl h⟩,fun w hb U=>?_⟩;refine(q2O a n c l b at_ x.n x.last x.delta x.val.has x.val.prev x.val.lead x.val.width R N w hb hl (Nat.le_of_lt O) U).mono ?_;rintro e w' ⟨B,h|h⟩
  ·obtain⟨s',y',p,A,h2,h3,h4⟩:=h;have A:z1n x (l.drop at_)=_:=A;rw[hc]at A;simp only[Option.some.injEq,Prod.mk.injEq]at A;obtain⟨rfl,rfl,h5⟩:=A;rw[q3r hp h3 h5];exact⟨h4,B⟩
  ·have A:z1n x (l.drop at_)=none:=h.1;rw[hc]at A;cases A
theorem y7W(n:Nat)(cH:1<=n)(a:Option Addr)(m c:Nat)(l:List Bool)(b:List UInt8)(B h A:Nat)(w:World)
  (hr:w.heap[A]? =some (wkO a m c l.length 0 z0h 0)) (hx:z0r w a m c l b) (hl:l.length<=549755812000) (aM:0<b.length->∀k,(Value.slice a m c).ownBlock=some k->k<B/\k≠h/\k≠A)
  (lB:A<B) (hB:B<=w.heap.size) (nO:A≠h) (hT:∀w',(∀k,k<B->k≠h->k≠A->w'.heap[k]? =w.heap[k]?)->z1u w'):
  y8n Fence.wide n prog 77 #[.pointer (some ⟨A,0,none⟩)] #[] (fun x:z1d=> #[.agg #[.int .i64 x.s.t,.int .u64 (x.s.v:Nat)]]) (q4l (z1T l 0 z0h).1 A a m c l.length) (q5J B h) (y8M A) (fun xs=>xs=(z1T l 0 z0h).1) (z8a (z1T l 0 z0h) A a m c l.length) w:=by
 intro lp J W hW cF hJ hY h0;refine callsIn_of_wp func77 rfl trivial ?_ rfl;simp only[ntmps77,List.size_toArray,List.length_cons,List.length_nil,Nat.reduceAdd,Nat.reduceSub,Array.replicate_succ,Array.replicate_zero,List.push_toArray,List.append_toArray,List.nil_append,List.cons_append];have aN:=(hW.block A (by omega) (by simp)).trans hr;obtain⟨N,hN⟩:=zN l.length;rw[<-hN]at aN hY ⊢;obtain⟨ST,aX⟩:=zN (z1T l 0 z0h);rw[<-aX]at hY ⊢;have b5:=z7 aX;clear aX;have b7:Hid (∀w',(∀k,k<B->k≠h->k≠A->w'.heap[k]? =w.heap[k]?)->z0r w' a m c l b):=z7 fun w' hk=>⟨y9N hx.rd fun h0 k aZ=>hk k (aM h0 k aZ).1 (aM h0 k aZ).2.1 (aM h0 k aZ).2.2,hx.len,hx.bits⟩;have bY:=z7 hT;have bG:Hid (∀k,k<B->k≠h->k≠A->W.heap[k]? =w.heap[k]?):=z7 fun k hk _ _=>hW.block k (by omega) (by simp);have cC:N<=549755812000:=by omega
 have bA:Hid (B<=W.heap.size):=z7 (Nat.le_trans hB hW.size);have bX:=z7 (z2q hx.bits);have aC:=z7 hx.len;have cG:m<=70368744177665:=by have:=hx.bits.len;have:=hx.len;omega
 have HN:=z7 hN;have HJ:=z7 hJ;have HY:=z7 hY;have aU:=z7 aN;have H0:=z7 h0;obtain⟨s0,s1,s2,s3,s4,s5,s6,s7,s8,s9,cB,sf⟩:=z0o aN;clear hx hT aM hr hW hJ hY h0 aN hl hN
 gi_wp2_with fail
 refine⟨trivial,callsIn_wide.2 ?_⟩;have b8:=b7.o W bG.o;have aW:=z2M a c b N W (by have:=b8.rd;rw[aC.o]at this;exact this) (by have:=aC.o;omega) (by omega) (by omega);rw[<-aC.o,HN.o,bX.o,<-HN.o]at aW;refine aW.mono ?_;rintro e W2 ⟨rfl,a5⟩;have bB:Hid (J [] W2):=z7 (HJ.o [] W W2 H0.o ⟨a5.os,a5.tape,a5.output,a5.size,fun k hk _=>a5.block k hk,fun k hk=>by cases hk⟩);have bO:Hid (W2.heap[A]? =some (wkO a m c N 0 z0h 0)):=z7 ((a5.block A (Array.getElem?_eq_some_iff.1 aU.o).1).trans aU.o);have bH:Hid (∀k,k<B->k≠h->k≠A->W2.heap[k]? =w.heap[k]?):=z7 fun k hk h1 h2=>(a5.block k (by have:=bA.o;omega)).trans (bG.o k hk h1 h2);have b9:Hid (B<=W2.heap.size):=z7 (Nat.le_trans bA.o a5.size);clear aW b8 a5 s0 s1 s2 s3 s4 s5 s6 s7 s8 s9 cB sf
 gi_wp2_with fail
 gi_loopw [4] (fun i wr=>∃(pre:List z1d) (at_:Nat) (x:z1M),at_<=N/\Hid (x.Ok/\x.n<=at_)/\Hid (pre++(z1T l at_ x).1=ST.1/\(z1T l at_ x).2=ST.2/\x=z0m z0h pre)/\wr.heap[A]? =some (wkO a m c N at_ x 0)/\Hid (∀k,k<B->k≠h->k≠A->wr.heap[k]? =w.heap[k]?)/\Hid (B<=wr.heap.size)/\Hid (J pre wr)) (fun i wr=>N - q0P A wr)
 case atStart=>exact⟨[],0,z0h,Nat.zero_le _,z7 ⟨z4R,by simp[z0h]⟩,z7 ⟨by rw[b5.o];rfl,by rw[b5.o],rfl⟩,bO.o,bH,b9,bB⟩
 case round=>
  obtain⟨pre,at_,x,cE,b0,aG,ur,c5,aV,bF⟩:=hrel;have ul:=(Array.getElem?_eq_some_iff.1 ur).1;have aH:=z7 ur;obtain⟨u0,u1,u2,u3,u4,u5,u6,u7,u8,u9,a4,uf⟩:=z0o ur;clear bB bO bH b9 aU H0 ur;have aY:Hid (at_=N->(∃xs,xs=ST.1/\J xs wr)/\z8a ST A a m c N wr):=z7 fun e=>by
   have h9:=aG.o;rw[e,HN.o,y6M]at h9;simp only[List.append_nil]at h9;refine⟨⟨pre,h9.1,bF.o⟩,?_⟩;unfold z8a;rw[<-h9.2.1,if_pos rfl,<-h9.1,<-h9.2.2,aH.o,e]
  by_cases hlt:at_<N
  ·have d1:decide ((at_:Int)<N)=true:=decide_eq_true (by omega);have n1:decide (at_<N)=true:=decide_eq_true hlt;clear aY;have aJ:Hid (∀w',Below wr.heap.size wr w'->w'.heap[A]? =some (wkO a m c N at_ x 0)):=z7 fun w' hb=>(hb.block A ul).trans aH.o;clear u0 u1 u2 u3 u4 u5 u6 u7 u8 u9 a4 uf
   gi_wp2_with fail
   refine wpIn_wide.2 ?_;refine q6 17 69 (fun D v w'=>Below wr.heap.size wr w') (Below.refl _ _).drew ?_;simp only[z0v];iterate 17 (refine q8.rd (e:=?_) (fun D v w' I L=>?_) ?_;rotate_left;(obtain⟨u0,u1,u2,u3,u4,u5,u6,u7,u8,u9,a4,uf⟩:=z0o (aJ.o w' L);clear L I;go_simp;try with_reducible rfl);go_simp)
   refine q8.fin (fun v w3 L=>?_);have aE:=z7 L;clear L;go_wp2
   gi_wp2_with fail
   obtain⟨st,sv,at2,y,f,bL,aF⟩:=q5f a m c l b at_ x b0.o.1 (by have:=b0.o.2;omega) (by have:=HN.o;omega) (by have:=HN.o;omega);rw[<-HN.o]at aF;have b3:=z7 bL;have b2:=z7 aF;clear bL aF;obtain⟨tb,aO⟩:=zN w3.heap.size;obtain⟨W3,aI⟩:=zN (w3.alloc (.cells #[.int .i64 0,.int .u64 0] 71));rw[<-aI,<-aO];have a3:Hid (Below wr.heap.size wr W3):=z7 (aE.o.trans (by rw[aI];exact(q5 _ _).mono aE.o.size));have bM:Hid (∀w',Below W3.heap.size W3 w'->w'.heap[tb]? =some (.cells #[.int .i64 0,.int .u64 0] 71 (0,0))):=z7 fun w' hb=>by
    have hg:W3.heap[tb]? =some (.cells #[.int .i64 0,.int .u64 0] 71 (0,0)):=(by rw[aI,aO];exact j8 _ _);exact(hb.block tb (Array.getElem?_eq_some_iff.1 hg).1).trans hg
   have a7:A≠tb:=(by have:=aE.o.size;omega);have c9:Hid (B<=tb):=z7 (by have:=aE.o.size;have:=aV.o;omega);have aA:Hid (∀w',Below W3.heap.size W3 w'->w'.heap[A]? =some (wkO a m c N at_ x 0)):=z7 fun w' hb=>aJ.o w' (a3.o.trans (hb.mono a3.o.size));have aD:Hid (∀w',Below W3.heap.size W3 w'->∀k,k<B->k≠h->k≠A->w'.heap[k]? =w.heap[k]?):=z7 fun w' hb k hk h1 h2=>((a3.o.trans (hb.mono a3.o.size)).block k (by have:=aV.o;omega)).trans (c5.o k hk h1 h2);have b6:=z7 aO;clear aI aO;refine wpIn_wide.2 ?_;refine q6 31 69 (fun D v w'=>CgS W3 (fun w=>(w.setCell ⟨tb,0,none⟩ (.int .i64 st)).setCell ⟨tb,1,none⟩ (.int .u64 sv)) (fun w=>w.setCell ⟨A,2,none⟩ (.int .i64 at2)) (fun w=>((((((w.setCell ⟨A,3,none⟩ (.int .i64 (y.n:Nat))).setCell ⟨A,4,none⟩ (.int .i64 y.last)).setCell ⟨A,5,none⟩ (.int .i64 y.delta)).setCell ⟨A,6,none⟩ (.bool y.val.has)).setCell ⟨A,7,none⟩ (.int .u64 (y.val.prev:Nat))).setCell ⟨A,8,none⟩ (.int .u8 (y.val.lead:Nat))).setCell ⟨A,9,none⟩ (.int .u8 (y.val.width:Nat))) (fun w=>w.setCell ⟨A,10,none⟩ (.int .u16 (f:Nat))) D v w') ⟨fun _=>(Below.refl _ _).drew,(fun h=>by cases h),(fun h=>by cases h),(fun h=>by cases h),(fun h=>by cases h)⟩ ?_;simp only[z0v];iterate 4 (refine q8.rl (e:=?_) (fun D v w h=>⟨h.no,h.s1,h.s2,h.s3,h.s4⟩) (fun D v w' I L=>?_) ?_;rotate_left;(clear L I;go_simp;try with_reducible rfl);go_simp)
   iterate 11 (refine q8.rl (e:=?_) (fun D v w h=>⟨h.no,h.s1,h.s2,h.s3,h.s4⟩) (fun D v w' I L=>?_) ?_;rotate_left;(obtain⟨u0,u1,u2,u3,u4,u5,u6,u7,u8,u9,a4,uf⟩:=z0o (aA.o w' (L.no (I.post 21 _ rfl (by kernel_rfl))));clear L I;go_simp;try with_reducible rfl);go_simp)
   refine q8.ca (.tuple #[.agg #[.int .i64 st,.int .u64 sv],.int .i64 at2,.agg #[.int .i64 (y.n:Nat),.int .i64 y.last,.int .i64 y.delta,.bool y.val.has,.int .u64 (y.val.prev:Nat),.int .u8 (y.val.lead:Nat),.int .u8 (y.val.width:Nat)],.int .u16 (f:Nat)]) (fun D v w' I L=>?_) ?_
   ·have O:=I.post 21 _ rfl (by kernel_rfl);have a0:=I.post 24 _ rfl (by kernel_rfl);have a1:=I.post 27 _ rfl (by kernel_rfl);have a2:=I.post 30 _ rfl (by kernel_rfl);have HS:=z7 (L.no O);have DD:Hid (D 21=false/\D 24=false/\D 27=false/\D 30=false):=z7 ⟨O,a0,a1,a2⟩;clear L I O a0 a1 a2;go_simp;go_at_call 118;refine(b2.o w' (b7.o w' (aD.o w' HS.o)) (bY.o w' (aD.o w' HS.o))).mono ?_;rintro e cI ⟨rfl,c6⟩;obtain⟨O,a0,a1,a2⟩:=DD.o;refine⟨rfl,⟨fun _=>HS.o.trans (c6.mono HS.o.size),fun e=>?_,fun e=>?_,fun e=>?_,fun e=>?_⟩⟩
    ·have e':D 21=true:=e;rw[O]at e';cases e'
    ·have e':D 24=true:=e;rw[a0]at e';cases e'
    ·have e':D 27=true:=e;rw[a1]at e';cases e'
    ·have e':D 30=true:=e;rw[a2]at e';cases e'
   go_simp;iterate 5 (refine q8.rl (e:=?_) (fun D v w h=>⟨h.no,h.s1,h.s2,h.s3,h.s4⟩) (fun D v w' I L=>?_) ?_;rotate_left;(clear L I;go_simp;try with_reducible rfl);go_simp)
   refine q8.ca undef (fun D v w' I L=>?_) ?_
   ·have O:D 21=false:=I.self;have a0:=I.post 24 _ rfl (by kernel_rfl);have a1:=I.post 27 _ rfl (by kernel_rfl);have a2:=I.post 30 _ rfl (by kernel_rfl);have HS:=z7 (L.no O);have DD:Hid (D 24=false/\D 27=false/\D 30=false):=z7 ⟨a0,a1,a2⟩;clear L I O a0 a1 a2;obtain⟨z0,z1,zf⟩:=z0i (bM.o w' HS.o);go_simp;exact CgS.t1 HS.o DD.o.1 DD.o.2.1 DD.o.2.2
   go_simp;iterate 2 (refine q8.rl (e:=?_) (fun D v w h=>⟨h.no,h.s1,h.s2,h.s3,h.s4⟩) (fun D v w' I L=>?_) ?_;rotate_left;(clear L I;go_simp;try with_reducible rfl);go_simp)
   refine q8.ca undef (fun D v w' I L=>?_) ?_
   ·have R:D 24=false:=I.self;have O:D 21=true:=I.pre 21 (by kernel_rfl);have a1:=I.post 27 _ rfl (by kernel_rfl);have a2:=I.post 30 _ rfl (by kernel_rfl);obtain⟨wc,U,Y⟩:=L.s1 O R;have a8:=z7 U;have DD:=z7 (And.intro O (And.intro a1 a2));clear L I R O a1 a2 U;have a9:=z7 Y;clear Y;have aB:w'.heap[A]? =some (wkO a m c N at_ x 0):=(by rw[a9.o];exact(q7 a7).trans ((q7 a7).trans (aA.o wc a8.o)));obtain⟨u0,u1,u2,u3,u4,u5,u6,u7,u8,u9,a4,uf⟩:=z0o aB;clear aB;go_simp;rw[a9.o];exact CgS.t2 a8.o DD.o.1 DD.o.2.1 DD.o.2.2
   go_simp;iterate 2 (refine q8.rl (e:=?_) (fun D v w h=>⟨h.no,h.s1,h.s2,h.s3,h.s4⟩) (fun D v w' I L=>?_) ?_;rotate_left;(clear L I;go_simp;try with_reducible rfl);go_simp)
   refine q8.ca undef (fun D v w' I L=>?_) ?_
   ·have R:D 27=false:=I.self;have O:D 21=true:=I.pre 21 (by kernel_rfl);have a0:D 24=true:=I.pre 24 (by kernel_rfl);have a2:=I.post 30 _ rfl (by kernel_rfl);obtain⟨wc,U,Y⟩:=L.s2 a0 R;have a8:=z7 U;have DD:=z7 (And.intro O (And.intro a0 a2));clear L I R O a0 a2 U;have a9:=z7 Y;clear Y;have aB:w'.heap[A]? =some (wkO a m c N at2 x 0):=(by rw[a9.o];exact y4x ((q7 a7).trans ((q7 a7).trans (aA.o wc a8.o))) _);obtain⟨u0,u1,u2,u3,u4,u5,u6,u7,u8,u9,a4,uf⟩:=z0o aB;clear aB;go_simp;rw[a9.o];exact CgS.t3 a8.o DD.o.1 DD.o.2.1 DD.o.2.2
   go_simp;iterate 2 (refine q8.rl (e:=?_) (fun D v w h=>⟨h.no,h.s1,h.s2,h.s3,h.s4⟩) (fun D v w' I L=>?_) ?_;rotate_left;(clear L I;go_simp;try with_reducible rfl);go_simp)
   refine q8.ca undef (fun D v w' I L=>?_) ?_
   ·have R:D 30=false:=I.self;have O:D 21=true:=I.pre 21 (by kernel_rfl);have a0:D 24=true:=I.pre 24 (by kernel_rfl);have a1:D 27=true:=I.pre 27 (by kernel_rfl);obtain⟨wc,U,Y⟩:=L.s3 a1 R;have a8:=z7 U;have DD:=z7 (And.intro O (And.intro a0 a1));clear L I R O a0 a1 U;have a9:=z7 Y;clear Y;have aB:w'.heap[A]? =some (wkO a m c N at2 y 0):=(by rw[a9.o];exact y4t ((q7 a7).trans ((q7 a7).trans (aA.o wc a8.o))) _ _ _ _ _ _ _ _);obtain⟨u0,u1,u2,u3,u4,u5,u6,u7,u8,u9,a4,uf⟩:=z0o aB;clear aB;go_simp;rw[a9.o];exact CgS.t4 a8.o DD.o.1 DD.o.2.1 DD.o.2.2
   go_simp;refine q8.fin (fun v w8 L=>?_);obtain⟨wc,U,aT⟩:=L.s4 rfl;clear L;have Y:w8=wkW ((wc.setCell ⟨tb,0,none⟩ (.int .i64 st)).setCell ⟨tb,1,none⟩ (.int .u64 sv)) A at2 y f:=aT;clear aT;have aR:Hid (w8.heap[A]? =some (wkO a m c N at2 y f)):=z7 (by rw[Y];exact q3O (by rw[q7 a7,q7 a7];exact aA.o wc U) at2 y f);have c8:Hid (w8.heap[tb]? =some (.cells #[.int .i64 st,.int .u64 sv] 71 (0,0))):=z7 (by
    rw[Y,y6I _ _ _ _ _ _ (Ne.symm a7)];have:=z0a (z0a (bM.o wc U) 0 (.int .i64 st)) 1 (.int .u64 sv);simpa using this)
   have c7:Hid (∀k,k<B->k≠h->k≠A->w8.heap[k]? =w.heap[k]?):=z7 fun k hk h1 h2=>by
    have h3:k≠tb:=(by have:=c9.o;omega);rw[Y,y6I _ _ _ _ _ _ h2,q7 h3,q7 h3];exact aD.o wc U k hk h1 h2
   have bS:Hid (wr.heap.size<=tb):=z7 (by have:=aE.o.size;rw[b6.o];exact this);have bC:Hid (J pre w8):=z7 (HJ.o pre wr w8 bF.o (by
    rw[Y];exact q5q (((a3.o.trans (U.mono a3.o.size)).setCell bS.o _).setCell bS.o _) at2 y f))
   have bZ:Hid (B<=w8.heap.size):=z7 (by
    have h1:=(a3.o.trans (U.mono a3.o.size)).size;rw[Y];unfold wkW;simp only[z6H];have:=aV.o;omega)
   clear Y U;obtain⟨u0,u1,u2,u3,u4,u5,u6,u7,u8,u9,a4,uf⟩:=z0o aR.o;obtain⟨z0,z1,zf⟩:=z0i c8.o;by_cases hf:f=0
   ·obtain⟨g1,g2,g3,g4,g5⟩:=b3.o.ok hf;subst hf;have a6:Hid (pre++⟨⟨st,sv⟩,y,at2⟩::(z1T l at2 y).1=ST.1/\(z1T l at2 y).2=ST.2/\y=z0m z0h (pre++ [⟨⟨st,sv⟩,y,at2⟩])):=z7 (by
     have h9:=aG.o;rw[g1]at h9;refine⟨h9.1,h9.2.1,?_⟩;unfold z0m;simp)
    have bN:q4l ST.1 A a m c N pre ⟨⟨st,sv⟩,y,at2⟩ w8:=⟨⟨_,a6.o.1⟩,aR.o⟩;obtain⟨fn,tmps,assign,body,hy,hR⟩:=HY.o pre ⟨⟨st,sv⟩,y,at2⟩ w8 bC.o bN;dsimp only at hy;have cA:Hid (y.Ok/\y.n<=at2):=z7 ⟨g4,by have:=b0.o.2;omega⟩;have bI:at2<=N/\at_<at2:=⟨by have:=HN.o;omega,g2⟩;clear bN g1 g2 g3 g4 g5;have U8:=z7 aR.o;go_wp2
    gi_wp2
    refine hR.mono ?_;rintro e W9 ⟨rfl,bE,aL⟩;have bR:=(aL.2 A lB nO).trans U8.o;have bW:Hid (∀k,k<B->k≠h->k≠A->W9.heap[k]? =w.heap[k]?):=z7 fun k hk h1 h2=>(aL.2 k hk h1).trans (c7.o k hk h1 h2);have bD:Hid (B<=W9.heap.size):=z7 (Nat.le_trans bZ.o aL.1);have bT:=z7 bE;have b4:=z7 bR;clear aL bR bE u0 u1 u2 u3 u4 u5 u6 u7 u8 u9 a4 uf z0 z1 zf hy hR
    gi_wp2
    go_roundw
    case rel=>exact⟨_,at2,y,bI.1,cA,z7 ⟨by rw[List.append_assoc];exact a6.o.1,a6.o.2.1,a6.o.2.2⟩,b4.o,bW,bD,bT⟩
    case measure=>
     have e1:q0P A W9=at2:=by
      unfold q0P;rw[(z0o b4.o).2.2.1];simp
     have e2:q0P A wr=at_:=by
      unfold q0P;rw[(z0o aH.o).2.2.1];simp
     rw[e1,e2];omega
   ·obtain⟨g1,g2,g3,g4⟩:=b3.o.bad hf;have aS:Hid ((∃xs,xs=ST.1/\J xs w8)/\z8a ST A a m c N w8):=z7 (by
     have h9:=aG.o;rw[g1]at h9;simp only[List.append_nil]at h9;refine⟨⟨pre,h9.1,bC.o⟩,?_⟩;unfold z8a;rw[<-h9.2.1,if_neg (by decide),aR.o,g2,g3,g4])
    have bJ:f=61:=g4;clear g1 g2 g3 g4 hf;subst bJ;go_wp2
    gi_wp2
    refine⟨fun f hf=>(by cases hf),?_⟩
    gi_wp2
    refine bodyPost_ret (results_none rfl _ _ _) rfl ⟨⟨_,rfl⟩,aS.o.1,aS.o.2⟩
  ·have d1:decide ((at_:Int)<N)=false:=decide_eq_false (by omega);have n1:decide (at_<N)=false:=decide_eq_false hlt;obtain⟨q1,q2⟩:=aY.o (by omega);have aJ:Hid (∀w',Below wr.heap.size wr w'->w'.heap[A]? =some (wkO a m c N at_ x 0)):=z7 fun w' hb=>(hb.block A ul).trans aH.o;have b1:Hid (∀w',Below wr.heap.size wr w'->(∃xs,xs=ST.1/\J xs w')/\z8a ST A a m c N w'):=z7 fun w' hb=>by
    obtain⟨xs,h1,h2⟩:=q1;refine⟨⟨xs,h1,HJ.o xs wr w' h2 ⟨hb.os,hb.tape,hb.output,hb.size,fun k hk _=>hb.block k hk,fun k hk=>by cases hk⟩⟩,?_⟩;exact(hb.block A ul).trans q2
   clear q1 q2 aY u0 u1 u2 u3 u4 u5 u6 u7 u8 u9 a4 uf
   gi_wp2_with fail
   refine wpIn_wide.2 ?_;refine q6 17 69 (fun D v w'=>Below wr.heap.size wr w') (Below.refl _ _).drew ?_;simp only[z0v];iterate 17 (refine q8.rd (e:=?_) (fun D v w' I L=>?_) ?_;rotate_left;(obtain⟨u0,u1,u2,u3,u4,u5,u6,u7,u8,u9,a4,uf⟩:=z0o (aJ.o w' L);clear L I;go_simp;try with_reducible rfl);go_simp)
   refine q8.fin (fun v w3 L=>?_);obtain⟨q1,q2⟩:=b1.o w3 L;have bU:=z7 q1;have bV:=z7 q2;clear L q1 q2;go_wp2
   gi_wp2_with fail
   go_end0
   exact⟨⟨_,rfl⟩,bU.o,bV.o⟩
theorem y3u{W:World}{l:Nat}{o A:Obj}(h:l<W.heap.size):(W.alloc A).putObj l o=(W.putObj l o).alloc A:=by
 unfold World.putObj World.alloc;simp only[World.mk.injEq];simp[Array.setIfInBounds,Array.set_push,h,Nat.lt_succ_of_lt h]
theorem z8O{F:Fence}{n:Nat}{P:Program}{α:Type}{g:Operand}{ps:Array Tmp}{assign body:Code}{Q:Exit->Act->World->Prop}{a:Act}{w:World}
  (aV:F.round=none) (h1:1<=n) {gf:Nat} {la lb:Array Value} (hg:a.eval g= .func (.func gf) la lb) (aG:F.fn gf) (eg:∀args w,(callFunc gf args).run P w= .ok (.enter gf args) w)
  {encs:α->Array Value} (aU:∀x,(encs x).size=ps.size) (Ok:List α->α->World->Prop) (Kp St:World->World->Prop) (S:List α->Prop) (Fin:World->Prop)
  (aE:y8n F (n - 1) P gf la lb encs Ok Kp St S Fin w) (a4:∀X l o o',Fin X->w.heap.size<=l->X.heap[l]? =some o->o.isCells=false->Fin (X.putObj l o'))
  (a6:∀{A B C:World},Kp A B->Kp B C->Kp A C) (a5:∀(W:World) (l:Nat) (o o':Obj),w.heap.size<=l->W.heap[l]? =some o->o.isCells=false->Kp W (W.putObj l o'))
  (I:List α->World->Prop) (a7:∀s X X',I s X->St X X'->I s X') (a8:∀X X',St X X'->KeepsFrom w.heap.size X X')
  (hI:OwnFrom w.heap.size I) (aL:∀s x X l o o',Ok s x X->w.heap.size<=l->X.heap[l]? =some o->o.isCells=false->Ok s x (X.putObj l o')) (h0:I [] w) (o₁:α->Obj) (a₁:α->Nat->Act)
  (O:∀(l:Nat) (x:α) (W:World) (K:Act->World->Prop),K (a₁ x W.heap.size) (W.alloc (o₁ x))->
   assign.wpIn (F.inRound l) (n - 1 - 1) P (Exit.then K (fun _ _ _=>False)) {tmps:=(ps.zip (encs x)).foldl (fun t (p,v)=>t.setIfInBounds p v) a.tmps,defers:= []} W)
  (a0:∀(l:Nat) (pre:List α) (x:α) (W:World),I pre W->Ok pre x W->body.wpIn (F.inRound l) (n - 1 - 1) P (y3J w.heap.size Kp (I (pre++ [x])) W) (a₁ x W.heap.size) (W.alloc (o₁ x)))
  (a1:∀(D:Nat) (xs:List α) (W:World),w.heap.size<=D->S xs->Fin W->I xs W->W.heap[D]? =some (.deferred (some []))->Q .normal {a with defers:={target:= .collected D,args:= #[]}::a.defers} W):
  (Code.rangeFunc g ps assign body).wpIn F n P Q a w:=by
 refine wpIn_rangeFunc ?_;intro fn aN;rw[aV];obtain⟨L,J⟩:∃L:LoopState->Option Code->Loop,L=fun st pe=>{state:=st,pending:=pe,fn,tmps:=a.tmps,params:=ps,assign,body,defers:=w.heap.size}:=⟨_,rfl⟩;obtain⟨U,N⟩:∃U,(w.alloc (.deferred (some []))).alloc (.loop (L .ready none))=U:=⟨_,rfl⟩;have aJ:U.heap[w.heap.size+1]? =some (.loop (L .ready none)):=by
  rw[<-N];have:=World.alloc_heap_new (w.alloc (.deferred (some []))) (.loop (L .ready none));rwa [World.size_alloc]at this
 have aI:U.heap[w.heap.size]? =some (.deferred (some [])):=by
  rw[<-N];exact(Below.heap_alloc _ _ _ (by simp)).trans (World.alloc_heap_new w _)
 have aH:I [] U:=by rw[<-N];exact hI.alloc _ (hI.alloc _ h0)
 have aM:Chg [] [] w U:=by
  rw[<-N];exact Chg.of_below (((Below.refl _ w).alloc (Nat.le_refl _) _).alloc (by simp) _)
 refine⟨w.heap.size+1, [{target:= .collected w.heap.size,args:= #[]}],U,{target:= .fn (.func gf) lb,args:=la++ #[.func (.yield (w.heap.size+1)) #[] #[]]},U,gf,
  la++ #[.func (.yield (w.heap.size+1)) #[] #[]]++lb,U,?_,?_,?_,?_,fun _=>h1,?_⟩
 ·rw[<-N,J];exact run_enterLoop_outer _ _ _ _ _
 ·simp only[resolve,hg];simp[go_sem]
 ·intro f' a9;simp[Target.leads]at a9;subst a9;exact aG
 ·simp[invoke,go_sem,eg]
 ·refine(aE (w.heap.size+1)
   (fun pre W=>I pre W/\W.heap[w.heap.size+1]? =some (.loop (L .ready none))/\W.heap[w.heap.size]? =some (.deferred (some [])))
   U aM (by omega)
   (fun s X X' hs aF=>by
    have hk:=a8 X X' aF;exact⟨a7 s X X' hs.1 aF,hk.same _ _ (by omega) hs.2.1 rfl,hk.same _ _ (Nat.le_refl _) hs.2.2 rfl⟩)
   ?_ ⟨aH,aJ,aI⟩).mono ?_
  ·rintro pre x W ⟨hi,Y,hk⟩ aT;have a2:w.heap.size+1<W.heap.size:=(Array.getElem?_eq_some_iff.1 Y).1;have hy:=run_yield (P:=P) (args:=encs x) Y (by rw[J];exact aU x);rw[J]at hy;refine⟨fn,_,assign,body,hy,roundIn_of_wpIn aN (O _ x W _ ⟨_,run_beginRound ((Below.heap_alloc W _ _ a2).trans Y) (by rw[J]),?_⟩)⟩;have aS:(W.putObj (w.heap.size+1) (.loop {L .ready none with state:= .busy})).heap[w.heap.size+1]? =some (.loop {L .ready none with state:= .busy}):=World.putObj_heap_same a2;have aR:(W.putObj (w.heap.size+1) (.loop {L .ready none with state:= .busy})).heap[w.heap.size]? =some (.deferred (some [])):=(World.putObj_heap_other (by omega)).trans hk;have aX:Kp W (W.putObj (w.heap.size+1) (.loop {L .ready none with state:= .busy})):=a5 _ _ _ _ (by omega) Y rfl;rw[y3u a2,show W.heap.size=(W.putObj (w.heap.size+1) (.loop {L .ready none with state:= .busy})).heap.size by simp];refine wpIn_mono (a0 _ pre x _ (hI.putObj _ hi (by omega) Y rfl) (aL _ _ _ _ _ _ aT (by omega) Y rfl)) ?_;rintro e a3 W3 hp;cases e with
   | normal=>
    obtain⟨aA,aB,aO⟩:=hp;have R:=aA.same _ _ (by omega) aS rfl;have hr:=run_endRound (P:=P) none R;rw[J]at hr;have aC:=R;rw[J]at aC;refine⟨_,_,hr,rfl,⟨hI.putObj _ aO (by omega) R rfl,?_,(World.putObj_heap_other (by omega)).trans (aA.same _ _ (Nat.le_refl _) aR rfl)⟩,a6 (a6 aX aB) (a5 _ _ _ _ (by omega) R rfl)⟩;rw[J];exact World.putObj_heap_same (Array.getElem?_eq_some_iff.1 R).1
   | ret=>exact hp.elim
   | exit id=>exact hp.elim
   | goto t=>exact hp.elim
   | panic ch=>exact hp.elim
   | outgrown=>exact hp.elim
  ·rintro e W2 ⟨⟨v,rfl⟩,⟨xs,hS,hi,Y,hk⟩,hf⟩;exact⟨none,_,by have:=run_endLoop (P:=P) Y (by rw[J];simp);rw[J]at this;exact this,a1 _ xs _ (Nat.le_refl _) hS (a4 _ _ _ _ hf (by omega) Y rfl) (hI.putObj _ hi (by omega) Y rfl) ((World.putObj_heap_other (by omega)).trans hk)⟩
