/-
  A range over a function whose iterator keeps state in cells of its own, where each round goes on: one law, over whatever program; append in a fence.
-/
import Derived.Test.YtfcnapnopdomhaaGreatDoorZRdOnceCrcACrcB
import Derived.RangeFuncNested
import Derived.RangeFuncBound
import Derived.RangeFuncCalls
import Derived.RangeFuncLeaves
import Derived.Shelf.Abstract
import Derived.Shelf.RegionOpen
import Derived.WalkKit
import Derived.OwnWalkIn
import Derived.TacticsInMore
import Derived.LoopNIn
import Derived.LoopIn
namespace Go.Proofs.YtfcnapnopdomhaaGreatDoor
set_option linter.unusedSimpArgs false
set_option linter.unusedVariables false
set_option maxRecDepth 100000
set_option maxHeartbeats 12800000
open Go.RowKit Go.Shelf
def y5N(B:Nat)(Kp:World→World→Prop)(J:World→Prop)(W:World):Exit→Act→World→Prop
 | .normal,_,W'=>KeepsFrom B W W'∧Kp W W'∧J W'
 | .ret,_,_=>False
 | .exit _,_,_=>False
 | .goto _,_,_=>False
 | .panic _,_,_=>False
 | .outgrown,_,_=>False
def q2r{α:Type}(F:Fence)(n:Nat)(P:Program)(gf:Nat)(lb:Array Value)(encs:α→Array Value)(Ok:List α→α→World→Prop)(Kp St:World→World→Prop)(S:List α→Prop)(w:World):Prop:=
 ∀(l:Nat) (J:List α→World→Prop) (W:World),Chg [] [] w W→w.heap.size≤l→(∀s X X',J s X→St X X'→J s X')→
  (∀pre x X,J pre X→Ok pre x X→YieldAt F (n - 1) P l (encs x) X fun e X'=>e= .returned (.bool true)∧J (pre++ [x]) X'∧Kp X X')→J [] W→
  CallsIn F n P gf (#[.func (.yield l) #[] #[]]++lb) W fun e W'=>(∃v,e= .returned v)∧∃xs,S xs∧J xs W'
theorem z8y{F:Fence}{n:Nat}{P:Program}{α:Type}{g:Operand}{ps:Array Tmp}{assign body:Code}{Q:Exit→Act→World→Prop}{a:Act}{w:World}
  (hro:F.round=none) (h1:1≤n) {gf:Nat} {lb:Array Value} (hg:a.eval g= .func (.func gf) #[] lb) (hFg:F.fn gf) (eg:∀args w,(callFunc gf args).run P w= .ok (.enter gf args) w)
  {encs:α→Array Value} (hps:∀x,(encs x).size=ps.size) (Ok:List α→α→World→Prop) (Kp St:World→World→Prop) (S:List α→Prop)
  (hseq:q2r F (n - 1) P gf lb encs Ok Kp St S w)
  (hKt:∀{A B C:World},Kp A B→Kp B C→Kp A C) (hKb:∀(W:World) (l:Nat) (o o':Obj),w.heap.size≤l→W.heap[l]? =some o→o.isCells=false→Kp W (W.putObj l o'))
  (I:List α→World→Prop) (hStI:∀s X X',I s X→St X X'→I s X') (hStK:∀X X',St X X'→KeepsFrom w.heap.size X X')
  (hI:OwnFrom w.heap.size I) (hOk:∀s x X l o o',Ok s x X→w.heap.size≤l→X.heap[l]? =some o→o.isCells=false→Ok s x (X.putObj l o')) (h0:I [] w) (a₁:α→Act)
  (hassign:∀(l:Nat) (x:α) (W:World) (K:Act→World→Prop),K (a₁ x) W→
   assign.wpIn (F.inRound l) (n - 1 - 1) P (Exit.then K (fun _ _ _=>False)) {tmps:=(ps.zip (encs x)).foldl (fun t (p,v)=>t.setIfInBounds p v) a.tmps,defers:= []} W)
  (hbody:∀(l:Nat) (pre:List α) (x:α) (W:World),I pre W→Ok pre x W→body.wpIn (F.inRound l) (n - 1 - 1) P (y5N w.heap.size Kp (I (pre++ [x])) W) (a₁ x) W)
  (hdone:∀(D:Nat) (xs:List α) (W:World),w.heap.size≤D→S xs→I xs W→W.heap[D]? =some (.deferred (some []))→Q .normal {a with defers:={target:= .collected D,args:= #[]}::a.defers} W):
  (Code.rangeFunc g ps assign body).wpIn F n P Q a w:=by
 refine wpIn_rangeFunc ?_;intro fn hfn;rw [hro];obtain ⟨rec,hrec⟩:∃rec:LoopState→Option Code→Loop,rec=fun st pe=>{state:=st,pending:=pe,fn,tmps:=a.tmps,params:=ps,assign,body,defers:=w.heap.size}:=⟨_,rfl⟩;obtain ⟨W1,hW1⟩:∃W1,(w.alloc (.deferred (some []))).alloc (.loop (rec .ready none))=W1:=⟨_,rfl⟩;have hL1:W1.heap[w.heap.size+1]? =some (.loop (rec .ready none)):=by
  rw [←hW1];have:=World.alloc_heap_new (w.alloc (.deferred (some []))) (.loop (rec .ready none));rwa [World.size_alloc] at this
 have hK1:W1.heap[w.heap.size]? =some (.deferred (some [])):=by
  rw [←hW1];exact (Below.heap_alloc _ _ _ (by simp)).trans (World.alloc_heap_new w _)
 have hI1:I [] W1:=by rw [←hW1];exact hI.alloc _ (hI.alloc _ h0)
 have hb1:Chg [] [] w W1:=by
  rw [←hW1];exact Chg.of_below (((Below.refl _ w).alloc (Nat.le_refl _) _).alloc (by simp) _)
 refine ⟨w.heap.size+1, [{target:= .collected w.heap.size,args:= #[]}],W1,{target:= .fn (.func gf) lb,args:= #[.func (.yield (w.heap.size+1)) #[] #[]]},W1,gf,
  #[.func (.yield (w.heap.size+1)) #[] #[]]++lb,W1,?_,?_,?_,?_,fun _=>h1,?_⟩
 ·rw [←hW1,hrec];exact run_enterLoop_outer _ _ _ _ _
 ·simp only [resolve,hg];simp [go_sem]
 ·intro f' hf';simp [Target.leads] at hf';subst hf';exact hFg
 ·simp [invoke,go_sem,eg]
 ·refine (hseq (w.heap.size+1)
   (fun pre W=>I pre W∧W.heap[w.heap.size+1]? =some (.loop (rec .ready none))∧W.heap[w.heap.size]? =some (.deferred (some [])))
   W1 hb1 (by omega)
   (fun s X X' hs hst=>by
    have hk:=hStK X X' hst;exact ⟨hStI s X X' hs.1 hst,hk.same _ _ (by omega) hs.2.1 rfl,hk.same _ _ (Nat.le_refl _) hs.2.2 rfl⟩)
   ?_ ⟨hI1,hL1,hK1⟩).mono ?_
  ·rintro pre x W ⟨hi,hl,hk⟩ hok;have hlt:w.heap.size+1<W.heap.size:=(Array.getElem?_eq_some_iff.1 hl).1;have hy:=run_yield (P:=P) (args:=encs x) hl (by rw [hrec];exact hps x);rw [hrec] at hy;refine ⟨fn,_,assign,body,hy,roundIn_of_wpIn hfn (hassign _ x W _ ⟨_,run_beginRound hl (by rw [hrec]),?_⟩)⟩;have hl2:(W.putObj (w.heap.size+1) (.loop {rec .ready none with state:= .busy})).heap[w.heap.size+1]? =some (.loop {rec .ready none with state:= .busy}):=World.putObj_heap_same hlt;have hk2:(W.putObj (w.heap.size+1) (.loop {rec .ready none with state:= .busy})).heap[w.heap.size]? =some (.deferred (some [])):=(World.putObj_heap_other (by omega)).trans hk;have hw2:Kp W (W.putObj (w.heap.size+1) (.loop {rec .ready none with state:= .busy})):=hKb _ _ _ _ (by omega) hl rfl;refine wpIn_mono (hbody _ pre x _ (hI.putObj _ hi (by omega) hl rfl) (hOk _ _ _ _ _ _ hok (by omega) hl rfl)) ?_;rintro e a3 W3 hp;cases e with
   | normal=>
    obtain ⟨hk3,hkp3,hi3⟩:=hp;have hl3:=hk3.same _ _ (by omega) hl2 rfl;have hr:=run_endRound (P:=P) none hl3;rw [hrec] at hr;have hl3':=hl3;rw [hrec] at hl3';refine ⟨_,_,hr,rfl,⟨hI.putObj _ hi3 (by omega) hl3 rfl,?_,(World.putObj_heap_other (by omega)).trans (hk3.same _ _ (Nat.le_refl _) hk2 rfl)⟩,hKt (hKt hw2 hkp3) (hKb _ _ _ _ (by omega) hl3 rfl)⟩;rw [hrec];exact World.putObj_heap_same (Array.getElem?_eq_some_iff.1 hl3).1
   | ret=>exact hp.elim
   | exit id=>exact hp.elim
   | goto t=>exact hp.elim
   | panic ch=>exact hp.elim
   | outgrown=>exact hp.elim
  ·rintro e W2 ⟨⟨v,rfl⟩,xs,hS,hi,hl,hk⟩;exact ⟨none,_,by have:=run_endLoop (P:=P) hl (by rw [hrec];simp);rw [hrec] at this;exact this,hdone _ xs _ (Nat.le_refl _) hS (hI.putObj _ hi (by omega) hl rfl) ((World.putObj_heap_other (by omega)).trans hk)⟩
theorem z2I{F:Fence}{n':Nat}{P:Program}{w:World}{a:Act}{o:Oper}{Q:Exit→Act→World→Prop}{ops:Array Oper}{rest:List Oper}(hgd:o.guard=none)(s x:Operand)(t:TypeId)
  (ho:o.op= .call {callee:= .builtin .append,args:= #[s,x],argTypes:= #[t,t]})
  (base:Nat) (e:TypeId) (ht:P.underlying t=some (.slice e)) (hinfo:(P.info? e).map (fun i=>(i.zero,i.size,i.bytes))=some (some (.int .u8 0),1,1))
  (v:Value) (l0:List UInt8) (hs:a.eval s=v) (hown:w.ownsRow base e 1 v l0.length (z0b l0))
  (xv:Value) (l:List UInt8) (hx:a.eval x=xv) (hrd:RdB w xv l) (hl:l0.length+l.length≤70368744177664) (hbase:base≤w.heap.size)
  (h:∀ao co w',w'.ownsRow base e 1 (.slice ao (l0++l).length co) (l0++l).length (z0b (l0++l))→w.grownBy w' v.ownBlock→wpListIn F n' P ops Q rest (a.put o.dst (.slice ao (l0++l).length co)) w'):
  wpListIn F n' P ops Q (o::rest) a w:=by
 obtain ⟨i,hi,h1,h2,h3⟩:=info_parts hinfo;refine wpListIn_plain hgd fun K hK'=>?_;obtain ⟨v',w',hrun,r1,r2,r3,r4⟩:=z3t (P:=P) (w:=w) base t o.type e i (.int .u8 0) 1 1 ht hi h1 h2 h3 rfl (by decide) v l0.length (z0b l0) hown xv l.length (z0b l) hrd (z3Y l) (by unfold maxLen;omega) (by omega) hbase;rw [←z2X,show l0.length+l.length=(l0++l).length by simp] at r1;obtain ⟨ao,co,rfl⟩:=(z0d r1).head;unfold Oper.wpIn;refine ⟨?_,?_⟩
 ·simp [Oper.about,ho,resolve,Target.leads,Sem.run_pure]
 ·rw [Oper.semAt_plain F _ _ (by rw [ho];intro c hc';cases hc')];simp [execOp,ho,resolve,invoke,builtin,hs,hx,hrun,Result.andThen];have h9:=h ao co w' r1 r2;simp only [List.length_append] at h9;exact hK' _ _ h9
theorem z8Y{F:Fence}{n':Nat}{P:Program}{w:World}{a:Act}{o:Oper}{Q:Exit→Act→World→Prop}{K:Act→World→Prop}{ops:Array Oper}{E:Prop}(hgd:o.guard=none)(s x:Operand)(t:TypeId)
  (ho:o.op= .call {callee:= .builtin .append,args:= #[s,x],argTypes:= #[t,t]})
  (base:Nat) (e:TypeId) (ht:P.underlying t=some (.slice e)) (hinfo:(P.info? e).map (fun i=>(i.zero,i.size,i.bytes))=some (some (.int .u8 0),1,1))
  (v:Value) (l0:List UInt8) (hs:a.eval s=v) (hown:w.ownsRow base e 1 v l0.length (z0b l0))
  (xv:Value) (l:List UInt8) (hx:a.eval x=xv) (hrd:RdB w xv l) (hl:l0.length+l.length≤70368744177664) (hbase:base≤w.heap.size)
  (h:∀ao co w',w'.ownsRow base e 1 (.slice ao (l0++l).length co) (l0++l).length (z0b (l0++l))→w.grownBy w' v.ownBlock→K (a.put o.dst (.slice ao (l0++l).length co)) w'):
  if Region.wanted o (yielded ops a.tmps)=true then Oper.wpIn F n' P o a w K Q else E:=by
 have hw:Region.wanted o (yielded ops a.tmps)=true:=by simp [Region.wanted,hgd]
 rw [if_pos hw];obtain ⟨i,hi,h1,h2,h3⟩:=info_parts hinfo;obtain ⟨v',w',hrun,r1,r2,r3,r4⟩:=z3t (P:=P) (w:=w) base t o.type e i (.int .u8 0) 1 1 ht hi h1 h2 h3 rfl (by decide) v l0.length (z0b l0) hown xv l.length (z0b l) hrd (z3Y l) (by unfold maxLen;omega) (by omega) hbase;rw [←z2X,show l0.length+l.length=(l0++l).length by simp] at r1;obtain ⟨ao,co,rfl⟩:=(z0d r1).head;unfold Oper.wpIn;refine ⟨?_,?_⟩
 ·simp [Oper.about,ho,resolve,Target.leads,Sem.run_pure]
 ·rw [Oper.semAt_plain F _ _ (by rw [ho];intro c hc';cases hc')];simp [execOp,ho,resolve,invoke,builtin,hs,hx,hrun,Result.andThen];have h9:=h ao co w' r1 r2;simp only [List.length_append] at h9;exact h9
def y6p{α:Type}(F:Fence)(n:Nat)(P:Program)(gf:Nat)(la lb:Array Value)(encs:α→Array Value)(Ok:List α→α→World→Prop)(Kp St:World→World→Prop)(S:List α→Prop)(Fin:World→Prop)(w:World):Prop:=
 ∀(l:Nat) (J:List α→World→Prop) (W:World),Chg [] [] w W→w.heap.size≤l→(∀s X X',J s X→St X X'→J s X')→
  (∀pre x X,J pre X→Ok pre x X→YieldAt F (n - 1) P l (encs x) X fun e X'=>e= .returned (.bool true)∧J (pre++ [x]) X'∧Kp X X')→J [] W→
  CallsIn F n P gf (la++ #[.func (.yield l) #[] #[]]++lb) W fun e W'=>(∃v,e= .returned v)∧(∃xs,S xs∧J xs W')∧Fin W'
theorem z5v{F:Fence}{n:Nat}{P:Program}{α:Type}{g:Operand}{ps:Array Tmp}{assign body:Code}{Q:Exit→Act→World→Prop}{a:Act}{w:World}
  (hro:F.round=none) (h1:1≤n) {gf:Nat} {la lb:Array Value} (hg:a.eval g= .func (.func gf) la lb) (hFg:F.fn gf) (eg:∀args w,(callFunc gf args).run P w= .ok (.enter gf args) w)
  {encs:α→Array Value} (hps:∀x,(encs x).size=ps.size) (Ok:List α→α→World→Prop) (Kp St:World→World→Prop) (S:List α→Prop) (Fin:World→Prop)
  (hseq:y6p F (n - 1) P gf la lb encs Ok Kp St S Fin w) (hFin:∀X l o o',Fin X→w.heap.size≤l→X.heap[l]? =some o→o.isCells=false→Fin (X.putObj l o'))
  (hKt:∀{A B C:World},Kp A B→Kp B C→Kp A C) (hKb:∀(W:World) (l:Nat) (o o':Obj),w.heap.size≤l→W.heap[l]? =some o→o.isCells=false→Kp W (W.putObj l o'))
  (I:List α→World→Prop) (hStI:∀s X X',I s X→St X X'→I s X') (hStK:∀X X',St X X'→KeepsFrom w.heap.size X X')
  (hI:OwnFrom w.heap.size I) (hOk:∀s x X l o o',Ok s x X→w.heap.size≤l→X.heap[l]? =some o→o.isCells=false→Ok s x (X.putObj l o')) (h0:I [] w) (a₁:α→Act)
  (hassign:∀(l:Nat) (x:α) (W:World) (K:Act→World→Prop),K (a₁ x) W→
   assign.wpIn (F.inRound l) (n - 1 - 1) P (Exit.then K (fun _ _ _=>False)) {tmps:=(ps.zip (encs x)).foldl (fun t (p,v)=>t.setIfInBounds p v) a.tmps,defers:= []} W)
  (hbody:∀(l:Nat) (pre:List α) (x:α) (W:World),I pre W→Ok pre x W→body.wpIn (F.inRound l) (n - 1 - 1) P (y5N w.heap.size Kp (I (pre++ [x])) W) (a₁ x) W)
  (hdone:∀(D:Nat) (xs:List α) (W:World),w.heap.size≤D→S xs→Fin W→I xs W→W.heap[D]? =some (.deferred (some []))→Q .normal {a with defers:={target:= .collected D,args:= #[]}::a.defers} W):
  (Code.rangeFunc g ps assign body).wpIn F n P Q a w:=by
 refine wpIn_rangeFunc ?_;intro fn hfn;rw [hro];obtain ⟨rec,hrec⟩:∃rec:LoopState→Option Code→Loop,rec=fun st pe=>{state:=st,pending:=pe,fn,tmps:=a.tmps,params:=ps,assign,body,defers:=w.heap.size}:=⟨_,rfl⟩;obtain ⟨W1,hW1⟩:∃W1,(w.alloc (.deferred (some []))).alloc (.loop (rec .ready none))=W1:=⟨_,rfl⟩;have hL1:W1.heap[w.heap.size+1]? =some (.loop (rec .ready none)):=by
  rw [←hW1];have:=World.alloc_heap_new (w.alloc (.deferred (some []))) (.loop (rec .ready none));rwa [World.size_alloc] at this
 have hK1:W1.heap[w.heap.size]? =some (.deferred (some [])):=by
  rw [←hW1];exact (Below.heap_alloc _ _ _ (by simp)).trans (World.alloc_heap_new w _)
 have hI1:I [] W1:=by rw [←hW1];exact hI.alloc _ (hI.alloc _ h0)
 have hb1:Chg [] [] w W1:=by
  rw [←hW1];exact Chg.of_below (((Below.refl _ w).alloc (Nat.le_refl _) _).alloc (by simp) _)
 refine ⟨w.heap.size+1, [{target:= .collected w.heap.size,args:= #[]}],W1,{target:= .fn (.func gf) lb,args:=la++ #[.func (.yield (w.heap.size+1)) #[] #[]]},W1,gf,
  la++ #[.func (.yield (w.heap.size+1)) #[] #[]]++lb,W1,?_,?_,?_,?_,fun _=>h1,?_⟩
 ·rw [←hW1,hrec];exact run_enterLoop_outer _ _ _ _ _
 ·simp only [resolve,hg];simp [go_sem]
 ·intro f' hf';simp [Target.leads] at hf';subst hf';exact hFg
 ·simp [invoke,go_sem,eg]
 ·refine (hseq (w.heap.size+1)
   (fun pre W=>I pre W∧W.heap[w.heap.size+1]? =some (.loop (rec .ready none))∧W.heap[w.heap.size]? =some (.deferred (some [])))
   W1 hb1 (by omega)
   (fun s X X' hs hst=>by
    have hk:=hStK X X' hst;exact ⟨hStI s X X' hs.1 hst,hk.same _ _ (by omega) hs.2.1 rfl,hk.same _ _ (Nat.le_refl _) hs.2.2 rfl⟩)
   ?_ ⟨hI1,hL1,hK1⟩).mono ?_
  ·rintro pre x W ⟨hi,hl,hk⟩ hok;have hlt:w.heap.size+1<W.heap.size:=(Array.getElem?_eq_some_iff.1 hl).1;have hy:=run_yield (P:=P) (args:=encs x) hl (by rw [hrec];exact hps x);rw [hrec] at hy;refine ⟨fn,_,assign,body,hy,roundIn_of_wpIn hfn (hassign _ x W _ ⟨_,run_beginRound hl (by rw [hrec]),?_⟩)⟩;have hl2:(W.putObj (w.heap.size+1) (.loop {rec .ready none with state:= .busy})).heap[w.heap.size+1]? =some (.loop {rec .ready none with state:= .busy}):=World.putObj_heap_same hlt;have hk2:(W.putObj (w.heap.size+1) (.loop {rec .ready none with state:= .busy})).heap[w.heap.size]? =some (.deferred (some [])):=(World.putObj_heap_other (by omega)).trans hk;have hw2:Kp W (W.putObj (w.heap.size+1) (.loop {rec .ready none with state:= .busy})):=hKb _ _ _ _ (by omega) hl rfl;refine wpIn_mono (hbody _ pre x _ (hI.putObj _ hi (by omega) hl rfl) (hOk _ _ _ _ _ _ hok (by omega) hl rfl)) ?_;rintro e a3 W3 hp;cases e with
   | normal=>
    obtain ⟨hk3,hkp3,hi3⟩:=hp;have hl3:=hk3.same _ _ (by omega) hl2 rfl;have hr:=run_endRound (P:=P) none hl3;rw [hrec] at hr;have hl3':=hl3;rw [hrec] at hl3';refine ⟨_,_,hr,rfl,⟨hI.putObj _ hi3 (by omega) hl3 rfl,?_,(World.putObj_heap_other (by omega)).trans (hk3.same _ _ (Nat.le_refl _) hk2 rfl)⟩,hKt (hKt hw2 hkp3) (hKb _ _ _ _ (by omega) hl3 rfl)⟩;rw [hrec];exact World.putObj_heap_same (Array.getElem?_eq_some_iff.1 hl3).1
   | ret=>exact hp.elim
   | exit id=>exact hp.elim
   | goto t=>exact hp.elim
   | panic ch=>exact hp.elim
   | outgrown=>exact hp.elim
  ·rintro e W2 ⟨⟨v,rfl⟩,⟨xs,hS,hi,hl,hk⟩,hf⟩;exact ⟨none,_,by have:=run_endLoop (P:=P) hl (by rw [hrec];simp);rw [hrec] at this;exact this,hdone _ xs _ (Nat.le_refl _) hS (hFin _ _ _ _ hf (by omega) hl rfl) (hI.putObj _ hi (by omega) hl rfl) ((World.putObj_heap_other (by omega)).trans hk)⟩
theorem y2E{W:World}{l:Nat}{o o':Obj}(h:l<W.heap.size):(W.alloc o').putObj l o=(W.putObj l o).alloc o':=by
 unfold World.putObj World.alloc;simp only [World.mk.injEq];simp [Array.setIfInBounds,Array.set_push,h,Nat.lt_succ_of_lt h]
theorem z8w{F:Fence}{n:Nat}{P:Program}{α:Type}{g:Operand}{ps:Array Tmp}{assign body:Code}{Q:Exit→Act→World→Prop}{a:Act}{w:World}
  (hro:F.round=none) (h1:1≤n) {gf:Nat} {la lb:Array Value} (hg:a.eval g= .func (.func gf) la lb) (hFg:F.fn gf) (eg:∀args w,(callFunc gf args).run P w= .ok (.enter gf args) w)
  {encs:α→Array Value} (hps:∀x,(encs x).size=ps.size) (Ok:List α→α→World→Prop) (Kp St:World→World→Prop) (S:List α→Prop) (Fin:World→Prop)
  (hseq:y6p F (n - 1) P gf la lb encs Ok Kp St S Fin w) (hFin:∀X l o o',Fin X→w.heap.size≤l→X.heap[l]? =some o→o.isCells=false→Fin (X.putObj l o'))
  (hKt:∀{A B C:World},Kp A B→Kp B C→Kp A C) (hKb:∀(W:World) (l:Nat) (o o':Obj),w.heap.size≤l→W.heap[l]? =some o→o.isCells=false→Kp W (W.putObj l o'))
  (I:List α→World→Prop) (hStI:∀s X X',I s X→St X X'→I s X') (hStK:∀X X',St X X'→KeepsFrom w.heap.size X X')
  (hI:OwnFrom w.heap.size I) (hOk:∀s x X l o o',Ok s x X→w.heap.size≤l→X.heap[l]? =some o→o.isCells=false→Ok s x (X.putObj l o')) (h0:I [] w) (o₁:α→Obj) (a₁:α→Nat→Act)
  (hassign:∀(l:Nat) (x:α) (W:World) (K:Act→World→Prop),K (a₁ x W.heap.size) (W.alloc (o₁ x))→
   assign.wpIn (F.inRound l) (n - 1 - 1) P (Exit.then K (fun _ _ _=>False)) {tmps:=(ps.zip (encs x)).foldl (fun t (p,v)=>t.setIfInBounds p v) a.tmps,defers:= []} W)
  (hbody:∀(l:Nat) (pre:List α) (x:α) (W:World),I pre W→Ok pre x W→body.wpIn (F.inRound l) (n - 1 - 1) P (y5N w.heap.size Kp (I (pre++ [x])) W) (a₁ x W.heap.size) (W.alloc (o₁ x)))
  (hdone:∀(D:Nat) (xs:List α) (W:World),w.heap.size≤D→S xs→Fin W→I xs W→W.heap[D]? =some (.deferred (some []))→Q .normal {a with defers:={target:= .collected D,args:= #[]}::a.defers} W):
  (Code.rangeFunc g ps assign body).wpIn F n P Q a w:=by
 refine wpIn_rangeFunc ?_;intro fn hfn;rw [hro];obtain ⟨rec,hrec⟩:∃rec:LoopState→Option Code→Loop,rec=fun st pe=>{state:=st,pending:=pe,fn,tmps:=a.tmps,params:=ps,assign,body,defers:=w.heap.size}:=⟨_,rfl⟩;obtain ⟨W1,hW1⟩:∃W1,(w.alloc (.deferred (some []))).alloc (.loop (rec .ready none))=W1:=⟨_,rfl⟩;have hL1:W1.heap[w.heap.size+1]? =some (.loop (rec .ready none)):=by
  rw [←hW1];have:=World.alloc_heap_new (w.alloc (.deferred (some []))) (.loop (rec .ready none));rwa [World.size_alloc] at this
 have hK1:W1.heap[w.heap.size]? =some (.deferred (some [])):=by
  rw [←hW1];exact (Below.heap_alloc _ _ _ (by simp)).trans (World.alloc_heap_new w _)
 have hI1:I [] W1:=by rw [←hW1];exact hI.alloc _ (hI.alloc _ h0)
 have hb1:Chg [] [] w W1:=by
  rw [←hW1];exact Chg.of_below (((Below.refl _ w).alloc (Nat.le_refl _) _).alloc (by simp) _)
 refine ⟨w.heap.size+1, [{target:= .collected w.heap.size,args:= #[]}],W1,{target:= .fn (.func gf) lb,args:=la++ #[.func (.yield (w.heap.size+1)) #[] #[]]},W1,gf,
  la++ #[.func (.yield (w.heap.size+1)) #[] #[]]++lb,W1,?_,?_,?_,?_,fun _=>h1,?_⟩
 ·rw [←hW1,hrec];exact run_enterLoop_outer _ _ _ _ _
 ·simp only [resolve,hg];simp [go_sem]
 ·intro f' hf';simp [Target.leads] at hf';subst hf';exact hFg
 ·simp [invoke,go_sem,eg]
 ·refine (hseq (w.heap.size+1)
   (fun pre W=>I pre W∧W.heap[w.heap.size+1]? =some (.loop (rec .ready none))∧W.heap[w.heap.size]? =some (.deferred (some [])))
   W1 hb1 (by omega)
   (fun s X X' hs hst=>by
    have hk:=hStK X X' hst;exact ⟨hStI s X X' hs.1 hst,hk.same _ _ (by omega) hs.2.1 rfl,hk.same _ _ (Nat.le_refl _) hs.2.2 rfl⟩)
   ?_ ⟨hI1,hL1,hK1⟩).mono ?_
  ·rintro pre x W ⟨hi,hl,hk⟩ hok;have hlt:w.heap.size+1<W.heap.size:=(Array.getElem?_eq_some_iff.1 hl).1;have hy:=run_yield (P:=P) (args:=encs x) hl (by rw [hrec];exact hps x);rw [hrec] at hy;refine ⟨fn,_,assign,body,hy,roundIn_of_wpIn hfn (hassign _ x W _ ⟨_,run_beginRound ((Below.heap_alloc W _ _ hlt).trans hl) (by rw [hrec]),?_⟩)⟩;have hl2:(W.putObj (w.heap.size+1) (.loop {rec .ready none with state:= .busy})).heap[w.heap.size+1]? =some (.loop {rec .ready none with state:= .busy}):=World.putObj_heap_same hlt;have hk2:(W.putObj (w.heap.size+1) (.loop {rec .ready none with state:= .busy})).heap[w.heap.size]? =some (.deferred (some [])):=(World.putObj_heap_other (by omega)).trans hk;have hw2:Kp W (W.putObj (w.heap.size+1) (.loop {rec .ready none with state:= .busy})):=hKb _ _ _ _ (by omega) hl rfl;rw [y2E hlt,show W.heap.size=(W.putObj (w.heap.size+1) (.loop {rec .ready none with state:= .busy})).heap.size by simp];refine wpIn_mono (hbody _ pre x _ (hI.putObj _ hi (by omega) hl rfl) (hOk _ _ _ _ _ _ hok (by omega) hl rfl)) ?_;rintro e a3 W3 hp;cases e with
   | normal=>
    obtain ⟨hk3,hkp3,hi3⟩:=hp;have hl3:=hk3.same _ _ (by omega) hl2 rfl;have hr:=run_endRound (P:=P) none hl3;rw [hrec] at hr;have hl3':=hl3;rw [hrec] at hl3';refine ⟨_,_,hr,rfl,⟨hI.putObj _ hi3 (by omega) hl3 rfl,?_,(World.putObj_heap_other (by omega)).trans (hk3.same _ _ (Nat.le_refl _) hk2 rfl)⟩,hKt (hKt hw2 hkp3) (hKb _ _ _ _ (by omega) hl3 rfl)⟩;rw [hrec];exact World.putObj_heap_same (Array.getElem?_eq_some_iff.1 hl3).1
   | ret=>exact hp.elim
   | exit id=>exact hp.elim
   | goto t=>exact hp.elim
   | panic ch=>exact hp.elim
   | outgrown=>exact hp.elim
  ·rintro e W2 ⟨⟨v,rfl⟩,⟨xs,hS,hi,hl,hk⟩,hf⟩;exact ⟨none,_,by have:=run_endLoop (P:=P) hl (by rw [hrec];simp);rw [hrec] at this;exact this,hdone _ xs _ (Nat.le_refl _) hS (hFin _ _ _ _ hf (by omega) hl rfl) (hI.putObj _ hi (by omega) hl rfl) ((World.putObj_heap_other (by omega)).trans hk)⟩
end Go.Proofs.YtfcnapnopdomhaaGreatDoor
