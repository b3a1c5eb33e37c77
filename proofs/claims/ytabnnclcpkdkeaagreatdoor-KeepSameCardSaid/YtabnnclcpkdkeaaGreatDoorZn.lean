/- A map's keys. -/
import Derived.Test.YtabnnclcpkdkeaaGreatDoorZm
import Derived.Test.YtabnnclcpkdkeaaGreatDoorZl
import Derived.Sort.MapsRangeIn
import Derived.RangeFuncGives
import Derived.RangeFuncNested
import Derived.Shelf.Abstract
import Derived.TacticsInMore
import Derived.LoopNIn
import Derived.LoopIn
import Derived.OwnWalkIn
namespace Go.Proofs.YtabnnclcpkdkeaaGreatDoor
open Go.Proofs.Tryz
set_option linter.all false
set_option maxRecDepth 100000
set_option maxHeartbeats 0
open Go.RowKit Go.Maps Go.Shelf
section
variable {κ ν:Type} {P:Program} {kT:TypeId} {kv:κ->Value} {kl:κ->Lit} {ok:κ->Prop}
variable {w w':World} {sh:Value->Bool} {f:ν->Value} {b:Nat} {E:List (κ×ν)}
variable {F:Fence} {n:Nat} {ops:Array Oper} {rest:List Oper} {o:Oper} {a:Act} {Q:Exit->Act->World->Prop} [DecidableEq κ]
theorem y1m(K:z5C P kT kv kl ok)(R:o.guard=none)(m:Operand)(t:TypeId)(I:o.op=Op.range t m)(e:TypeId)(ht:P.underlying t=some (.map kT e))(U:a.eval m= .map (some b))(A:z3X w P kT kl sh f b E)
  (O:∀w',z3b w' P kT kl ok sh f b w.heap.size E E->w.grownBy w' none->w'.heap.size=w.heap.size+1->wpListIn F n P ops Q rest (a.put o.dst (.pointer (some ⟨w.heap.size,0,none⟩))) w'):wpListIn F n P ops Q (o::rest) a w:=by
 refine wpListIn_range_own w R m t I kT e K.keyed ht (z4G sh) b E.length (MD kl f E) U A fun w' J L N=>O w' ⟨_,_,J,fun k hk=>?_,fun p Y=>Y,(A.mok K).1⟩ L N;unfold MD;rw[tN,r8,uc,pq,pq];simp[K.same]
theorem y2x{β:Type}{r:Nat}{R:List (κ×ν)}(K:z5C P kT kv kl ok)(hg:o.guard=none)(it:Operand)(aF:o.op=Op.next it false)(J:β->Value)(a4:∀v,sh v=true->∃c,v=J c)
  (a8:a.eval it= .pointer (some ⟨r,0,none⟩)) (h:z3b w P kT kl ok sh f b r E R)
  (N:R= []->wpListIn F n P ops Q rest (a.put o.dst (.tuple #[.bool false])) w)
  (O:∀(p:κ×ν) (c:β) (w':World),p∈R->f p.2=J c->z3b w' P kT kl ok sh f b r E (z2x p.1 R)->w.grownBy w' (some r)->w'.heap.size=w.heap.size->w'.rangeLeft b r<w.rangeLeft b r->
   (Instr.entry (.pointer (some ⟨r,0,none⟩))).run P w'= .ok (.tuple #[kv p.1,J c]) w'->wpListIn F n P ops Q rest (a.put o.dst (.tuple #[.bool true,kv p.1,J c])) w'):wpListIn F n P ops Q (o::rest) a w:=by
 obtain⟨left,cnt,Y,hl,hm,I⟩:=h;have A:∀k,ok k->left (kl k)=R.any fun p=>decide (p.1=k):=hl;have hE:=(z6n Y.owns).mok K;refine wpListIn_next_ranges w hg it aF kT K.keyed (z4G sh) kv J (fun key l hk=>by obtain⟨k,h1,_⟩:=K.inv _ _ hk;exact⟨k,h1⟩) (fun v y hv=>a4 v (z4Z hv).2) b r E.length (MD kl f E) left cnt a8 Y (fun h0 aB=>?_) (fun x c l y w' a0 a1 aC hv a5 L aE a7 aG a6=>?_)
 .refine N ?_
  match R,I,A with
  | [],_,_=>rfl
  | p::R,I,A=>
   have:=A p.1 (I.2 p wH);rw[aB]at this;simp at this
 obtain⟨k,a9,rfl,aA⟩:=K.inv _ _ a1;obtain rfl:=K.inj _ _ a9;have h1:=A x aA;rw[aC]at h1;obtain⟨p,hp,a3⟩:=pq.1 h1.symm;simp only[od]at a3;subst a3;have h2:=a5 (.held undef);rw[y7g f K.same,y1c hE.1 (hm p hp),(z4Z hv).1]at h2;simp only[pK,ki,gr]at h2;refine O p c w' hp h2 ⟨_,a0,L,fun k hk=>?_,fun q U=>hm q ((z2L p.1 q R).1 U).1,⟨I.1.filter _,fun q U=>I.2 q ((z2L p.1 q R).1 U).1⟩⟩ a7 aG (by rw[L.left_eq,Y.left_eq];exact aE) a6;rw[A k hk,uc];simp only[uh,pq,od,mP];constructor
 .rintro⟨⟨q,U,rfl⟩,a2⟩;refine⟨q,(z2L _ _ _).2 ⟨U,fun e=>?_⟩,rfl⟩;rw[e,(K.same _ _).2 rfl]at a2;cases a2
 rintro⟨q,U,rfl⟩;obtain⟨h3,h4⟩:=(z2L _ _ _).1 U;refine⟨⟨q,h3,rfl⟩,?_⟩;cases hs:(kl q.1).sameKey (kl p.1)with
 | false=>rfl
 | true=>exact absurd ((K.same _ _).1 hs) h4
end
attribute [local go_sem] Oper.semAt_some
theorem q1O:∀v,q2w v=true->∃c:Option Addr,v= .pointer c
 | .pointer c,_=>⟨c,rfl⟩
theorem z3b.walks{κ ν:Type} [DecidableEq κ]{w w':World}{P:Program}{kT:TypeId}{kl:κ->Lit}{ok:κ->Prop}{sh:Value->Bool}{f:ν->Value}{b r:Nat}{E R:List (κ×ν)}(h:z3b w P kT kl ok sh f b r E R)(J:KeepsWalks w w'):z3b w' P kT kl ok sh f b r E R:=by
 obtain⟨left,cnt,A,I⟩:=h;exact⟨left,cnt,A.of_walks J,I⟩
theorem z3b.left_walks{κ ν:Type} [DecidableEq κ]{w w':World}{P:Program}{kT:TypeId}{kl:κ->Lit}{ok:κ->Prop}{sh:Value->Bool}{f:ν->Value}{b r:Nat}{E R:List (κ×ν)}(h:z3b w P kT kl ok sh f b r E R)(I:KeepsWalks w w'):w'.rangeLeft b r=w.rangeLeft b r:=by
 obtain⟨left,cnt,A,J⟩:=h;rw[(A.of_walks I).left_eq,A.left_eq]
theorem z3b.iterw{κ ν:Type} [DecidableEq κ]{w:World}{P:Program}{kT:TypeId}{kl:κ->Lit}{ok:κ->Prop}{sh:Value->Bool}{f:ν->Value}{b r:Nat}{E R:List (κ×ν)}(h:z3b w P kT kl ok sh f b r E R):∃o:Obj,w.heap[r]? =some o/\o.isWalk=true:=by
 obtain⟨left,cnt,A,I⟩:=h;exact A.iter_walk
theorem q5y(A:Nat)(w:World):Calls prog 48 #[.map (some A)] w fun e w'=>
  e= .returned (.func (.func 95) #[] #[.pointer (some ⟨w.heap.size,0,none⟩)])/\w'=w.alloc (.cells #[.map (some A)] 142):=by
 go_enter func48,ntmps48;go_wp2;go_ret;exact⟨wH,rfl⟩
theorem q4A(F:Fence)(n:Nat)(a4:F.fn 95)(aC:F.round=none)(hn:1<=n)(l Bm b:Nat)(E:List (Int×z0I))(J:List Int->World->Prop)
  (hY:∀U x W,J U W->U.length<E.length->YieldAt F (n - 1) prog l #[z7U x] W fun e W'=>e= .returned (.bool true)/\J (U++ [x]) W'/\KeepsWalks W W')
  (W:World) (hJ:AbidesFrom W.heap.size J) (hm:W.cell? ⟨Bm,0,none⟩=some (.map (some b))) (N:y0S W b E) (h0:J [] W):
  CallsIn F n prog 95 #[.func (.yield l) #[] #[],.pointer (some ⟨Bm,0,none⟩)] W fun e W'=>(∃v,e= .returned v)/\∃A:List Int,A.Perm (E.map Prod.fst)/\J A W':=by
 refine qh func95 rfl a4 ?_ aC;simp only[ntmps95,oz,wW,ob,Nat.reduceAdd,Nat.reduceSub,pC,pD,pY,pN,uW,uY]
 gi_wp2_with (gi_at_range;refine y1m z4S rfl _ 142 rfl 97 underlying142 rfl N ?_;intro w0 a3 a8 aH)
 go_frame
 gi_loopw [3] (fun _ wr=>∃(R:List (Int×z0I)) (A:List Int),Hid (z3b wr prog 40 z4e (fun n=>(Lit.int .u32 n).wf=true) q2w q8u b W.heap.size E R)/\Hid ((A++R.map Prod.fst).Perm (E.map Prod.fst))/\J A wr) (fun _ wr=>wr.rangeLeft b W.heap.size)
 case atStart=>
  exact⟨E, [],z7 a3,z7 (ma _),hJ [] W w0 none h0 a8 (fun r e=>by cases e)⟩
 case round=>
  obtain⟨R,A,hr,hp,Y⟩:=hrel;have a7:=z7 (by obtain⟨_,_,_,_,_,h4⟩:=hr.o;exact h4:MOk (fun n=>(Lit.int .u32 n).wf=true) R)
  gi_wp2_with (gi_at_next;refine y2x z4S rfl _ rfl (fun c:Option Addr=>Value.pointer c) q1O rfl hr.o ?_ ?_)
  .intro hR;subst hR
   gi_wp2
   go_end0
   exact⟨⟨_,rfl⟩,A,by simpa using hp.o,Y⟩
  intro pk px c w2 I a2 L a9 aE O aF;obtain⟨p,ep⟩:∃p:Int×z0I,p=(pk,px):=⟨_,rfl⟩;obtain rfl:pk=p.1:=by rw[ep]
  obtain rfl:px=p.2:=by rw[ep]
  clear ep;have L:=z7 L;have aA:=z7 (show((A++ [p.1])++(z2x p.1 R).map Prod.fst).Perm (E.map Prod.fst) by
   have h1:=((y4w a7.o I).map Prod.fst).symm;rw[wj];exact(List.Perm.append_left A (by simpa using h1.symm)).trans hp.o)
  have a1:A.length<E.length:=by
   have h1:=hp.o.length_eq;have h2:0<R.length:=qq I;simp at h1;omega
  have a5:J A w2:=hJ A wr w2 (some W.heap.size) Y a9 (fun r e=>by cases e;exact⟨wJ _,hr.o.iterw⟩);obtain⟨fn,tmps,assign,body,hy,hR⟩:=hY A p.1 w2 a5 a1;have a2:=z7 a2;have O:=z7 O;have aG:=z7 I;clear aE I hY hJ hm N h0
  gi_wp2
  refine hR.mono ?_;rintro e W3 ⟨rfl,a6,a0⟩
  gi_wp2
  have aB:=z7 (L.o.walks a0)
  go_roundw
  case rel=>exact⟨_,A++ [p.1],aB,aA,a6⟩
  case measure=>rw[L.o.left_walks a0];exact O.o
def StW(B:Nat)(X X':World):Prop:=∃row,X.grownBy X' row/\∀r,row=some r->B<=r/\∃o:Obj,X.heap[r]? =some o/\o.isWalk=true
theorem StW.keep{B:Nat}{X I:World}(h:StW B X I)(k:Nat)(o:Obj)(A:X.heap[k]? =some o)(O:o.isWalk=false):I.heap[k]? =some o:=by
 obtain⟨row,N,R⟩:=h;refine(N.block k (wI.1 A).1 fun e=>?_).trans A;obtain⟨_,U,J,L⟩:=R k e.symm;rw[A]at J;cases J;rw[O]at L;cases L
theorem StW.own{α:Type}{B:Nat}{I:α->World->Prop}(L:OwnFrom B I){s:α}{X A:World}(O:I s X)(h:StW B X A):I s A:=by
 obtain⟨row,N,J⟩:=h;exact L s X A row O N fun r e=>⟨(J r e).1,(J r e).2.imp fun o ⟨h1,h2⟩=>⟨h1,by cases o<;>first|rfl|cases h2⟩⟩
theorem z9Q{F:Fence}{n:Nat}{P:Program}{α:Type}{g:Operand}{ps:Array Tmp}{assign body:Code}{Q:Exit->Act->World->Prop}{a:Act}{w:World}
  (aU:F.round=none) (h1:1<=n) {gf:Nat} {lb:Array Value} (hg:a.eval g= .func (.func gf) #[] lb) (aE:F.fn gf) (eg:∀args w,(callFunc gf args).run P w= .ok (.enter gf args) w)
  {encs:α->Array Value} (aT:∀x,(encs x).size=ps.size) (Ok:List α->α->World->Prop) (Kp St:World->World->Prop) (S:List α->Prop)
  (aB:q0e F (n - 1) P gf lb encs Ok Kp St S w)
  (a4:∀{A B C:World},Kp A B->Kp B C->Kp A C) (a2:∀(W:World) (l:Nat) (o o':Obj),w.heap.size<=l->W.heap[l]? =some o->o.isCells=false->o.isWalk=false->Kp W (W.putObj l o'))
  (I:List α->World->Prop) (a5:∀s X X',I s X->St X X'->I s X') (a6:∀X X',St X X'->∀(k:Nat) (o:Obj),w.heap.size<=k->X.heap[k]? =some o->o.isCells=false->o.isWalk=false->X'.heap[k]? =some o)
  (hI:OwnFrom w.heap.size I) (aI:∀s x X l o o',Ok s x X->w.heap.size<=l->X.heap[l]? =some o->o.isCells=false->Ok s x (X.putObj l o')) (h0:I [] w) (a₁:α->Act)
  (R:∀(l:Nat) (x:α) (W:World) (K:Act->World->Prop),K (a₁ x) W->
   assign.wpIn (F.inRound l) (n - 1 - 1) P (Exit.then K (fun _ _ _=>False)) {tmps:=(ps.zip (encs x)).foldl (fun t (p,v)=>t.setIfInBounds p v) a.tmps,defers:= []} W)
  (a0:∀(l:Nat) (N:List α) (x:α) (W:World),I N W->Ok N x W->body.wpIn (F.inRound l) (n - 1 - 1) P (y4G w.heap.size Kp (I (N++ [x])) W) (a₁ x) W)
  (a1:∀(D:Nat) (xs:List α) (W:World),w.heap.size<=D->S xs->I xs W->W.heap[D]? =some (.deferred (some []))->Q .normal {a with defers:={target:= .collected D,args:= #[]}::a.defers} W):
  (Code.rangeFunc g ps assign body).wpIn F n P Q a w:=by
 refine wpIn_rangeFunc ?_;intro fn aL;rw[aU];obtain⟨L,J⟩:∃L:LoopState->Option Code->Loop,L=fun st pe=>{state:=st,pending:=pe,fn,tmps:=a.tmps,params:=ps,assign,body,defers:=w.heap.size}:=⟨_,rfl⟩;obtain⟨Y,O⟩:∃Y,(w.alloc (.deferred (some []))).alloc (.loop (L .ready none))=Y:=⟨_,rfl⟩;have aH:Y.heap[w.heap.size+1]? =some (.loop (L .ready none)):=by
  rw[<-O];have:=World.alloc_heap_new (w.alloc (.deferred (some []))) (.loop (L .ready none));rwa [oQ]at this
 have aG:Y.heap[w.heap.size]? =some (.deferred (some [])):=by
  rw[<-O];exact(ub _ _ _ wH).trans (World.alloc_heap_new w _)
 have aF:I [] Y:=by rw[<-O];exact hI.alloc _ (hI.alloc _ h0)
 have aJ:Chg [] [] w Y:=by
  rw[<-O];exact Chg.of_below (((wN _ w).alloc wE _).alloc wH _)
 refine⟨w.heap.size+1, [{target:= .collected w.heap.size,args:= #[]}],Y,{target:= .fn (.func gf) lb,args:= #[.func (.yield (w.heap.size+1)) #[] #[]]},Y,gf,
  #[.func (.yield (w.heap.size+1)) #[] #[]]++lb,Y,?_,?_,?_,?_,fun _=>h1,?_⟩
 .rw[<-O,J];exact run_enterLoop_outer _ _ _ _ _
 .simp only[resolve,hg];simp[go_sem]
 .intro f' a7;simp[Target.leads]at a7;subst a7;exact aE
 .simp[invoke,go_sem,eg]
 refine(aB (w.heap.size+1)
  (fun N W=>I N W/\W.heap[w.heap.size+1]? =some (.loop (L .ready none))/\W.heap[w.heap.size]? =some (.deferred (some [])))
  Y aJ wF
  (fun s X X' hs aC=>by
   have hk:=a6 X X' aC;exact⟨a5 s X X' hs.1 aC,hk _ _ wF hs.2.1 rfl rfl,hk _ _ wE hs.2.2 rfl rfl⟩)
  ?_ ⟨aF,aH,aG⟩).mono ?_
 .rintro N x W ⟨hi,hl,hk⟩ aS;have aR:w.heap.size+1<W.heap.size:=(wI.1 hl).1;have hy:=run_yield (P:=P) (args:=encs x) hl (by rw[J];exact aT x);rw[J]at hy;refine⟨fn,_,assign,body,hy,roundIn_of_wpIn aL (R _ x W _ ⟨_,run_beginRound hl (by rw[J]),?_⟩)⟩;have aO:(W.putObj (w.heap.size+1) (.loop {L .ready none with state:= .busy})).heap[w.heap.size+1]? =some (.loop {L .ready none with state:= .busy}):=World.putObj_heap_same aR;have aN:(W.putObj (w.heap.size+1) (.loop {L .ready none with state:= .busy})).heap[w.heap.size]? =some (.deferred (some [])):=(World.putObj_heap_other wF).trans hk;have aV:Kp W (W.putObj (w.heap.size+1) (.loop {L .ready none with state:= .busy})):=a2 _ _ _ _ wF hl rfl rfl;refine tM (a0 _ N x _ (hI.putObj _ hi wF hl rfl) (aI _ _ _ _ _ _ aS wF hl rfl)) ?_;rintro e a3 W3 hp;cases e with
  | normal=>
   obtain⟨a8,a9,aM⟩:=hp;have U:=a8.same _ _ wF aO rfl;have hr:=run_endRound (P:=P) none U;rw[J]at hr;have aA:=U;rw[J]at aA;refine⟨_,_,hr,rfl,⟨hI.putObj _ aM wF U rfl,?_,(World.putObj_heap_other wF).trans (a8.same _ _ wE aN rfl)⟩,a4 (a4 aV a9) (a2 _ _ _ _ wF U rfl rfl)⟩;rw[J];exact World.putObj_heap_same (wI.1 U).1
  | ret=>exact hp.elim
  | exit id=>exact hp.elim
  | goto t=>exact hp.elim
  | panic ch=>exact hp.elim
  | outgrown=>exact hp.elim
 rintro e W2 ⟨⟨v,rfl⟩,xs,hS,hi,hl,hk⟩;exact⟨none,_,by have:=run_endLoop (P:=P) hl (by rw[J];simp);rw[J]at this;exact this,a1 _ xs _ wE hS (hI.putObj _ hi wF hl rfl) ((World.putObj_heap_other wF).trans hk)⟩
theorem q7z(n:Nat)(hn:1<=n)(L b:Nat)(E:List (Int×z0I))(w:World)(hm:w.cell? ⟨L,0,none⟩=some (.map (some b)))(O:L<w.heap.size)(A:y0S w b E):
  q0e Fence.wide n prog 95 #[.pointer (some ⟨L,0,none⟩)] (fun x:Int=> #[z7U x]) (fun I _ _=>I.length<E.length) KeepsWalks (StW w.heap.size) (fun ks=>ks.Perm (E.map Prod.fst)) w:=by
 intro l J W R hl hJ hY h0;have hb:b<w.heap.size:=by obtain⟨es,N,hb,_⟩:=A;exact(wI.1 hb).1
 refine q4A Fence.wide n trivial rfl hn l L b E J (fun I x Y h1 h2=>hY I x Y h1 h2) W (fun s X X' row hs hg U=>hJ s X X' hs ⟨row,hg,fun r e=>⟨wV R.size (U r e).1,(U r e).2⟩⟩) ?_ (A.same (R.block b hb wH)) h0;exact(ud (w:=w) (a:=⟨L,0,none⟩) (R.block L O wH)).trans hm
attribute [local go_sem] Oper.semAt_some
structure KsI (h:Nat) (w0:World) (ks:List Int) (W:World):Prop where
 at_:∃v,W.heap[h]? =some (.cells #[v] 68)/\W.ownsRow (h+1) 40 1 v ks.length (ks.map z7U)
 low:Below h w0 W
theorem KsI.turn{h:Nat}{w0 W L:World}{ks:List Int}{row:Option Nat}(hI:KsI h w0 ks W)(I:W.grownBy L row)(h0:h<=w0.heap.size)(Y:∀r,row=some r->h+1<=r/\∃o:Obj,W.heap[r]? =some o/\o.isCells=false):KsI h w0 ks L:=by
 obtain⟨⟨v,N,O⟩,R⟩:=hI;have A:=fun r e=>(Y r e).2;refine⟨⟨v,(grownBy_keeps_cells I A N rfl).trans N,j7 O fun k U=>?_⟩,R.grown I (wV h0 R.size) fun r e=>by have:=(Y r e).1;omega⟩;rcases O.2 with⟨rfl,_⟩|⟨g,a0,a1,rfl,_,J,_⟩
 .cases U
 obtain rfl:g=k:=by simpa[Value.ownBlock]using U
 exact grownBy_keeps_cells I A J rfl
theorem q0M(Bm b:Nat)(E:List (Int×z0I))(w:World)(hm:w.cell? ⟨Bm,0,none⟩=some (.map (some b)))(aZ:Bm<w.heap.size)(N:y0S w b E)(aT:E.length<=1000000):
  Calls prog 130 #[.slice none 0 0,.func (.func 95) #[] #[.pointer (some ⟨Bm,0,none⟩)]] w fun e w'=>
   ∃(a:Option Addr) (c:Nat) (ks:List Int),e= .returned (.slice a ks.length c)/\ks.Perm (E.map Prod.fst)/\w'.ownsRow w.heap.size 40 1 (.slice a ks.length c) ks.length (ks.map z7U)/\Below w.heap.size w w':=by
 refine(gj (n:=3)).1 ?_;refine callsIn_of_wp_marks func130 rfl trivial ?_ rfl;simp only[ntmps130,oz,wW,ob,Nat.reduceAdd,Nat.reduceSub,pC,pD,pY,pN,uW,uY]
 gi_wp2
 obtain⟨h,hh⟩:=zN w.heap.size;obtain⟨W1,R⟩:=zN (w.alloc (.cells #[.slice none 0 0] 68));have a2:W1.heap.size=h+1:=by rw[R,hh];simp
 have k0:W1.heap[h]? =some (.cells #[.slice none 0 0] 68):=by rw[R,hh];exact World.alloc_heap_new w _
 have U:Below h w W1:=by rw[R,hh];exact(wN _ w).alloc wE _
 have aF:b<w.heap.size:=by obtain⟨es,aI,hb,_⟩:=N;exact(wI.1 hb).1
 have a6:W1.cell? ⟨Bm,0,none⟩=some (.map (some b)):=(ud (w:=w) (a:=⟨Bm,0,none⟩) (U.block Bm wF)).trans hm;have A:y0S W1 b E:=N.same (U.block b wF);rw[<-R];simp only[<-hh];have HH:=z7 hh;have aU:=z7 a2;have aA:h<=w.heap.size:=wF
 have aV:=z7 R;have a0:OwnFrom W1.heap.size (fun L W=>KsI h w L W):=fun s X X' row hs hg hr=>hs.turn hg aA fun r e=>by have:=hr r e;rw[a2]at this;exact this
 clear R;refine z9Q (encs:=fun x:Int=> #[z7U x]) rfl wF (gf:=95) (lb:= #[.pointer (some ⟨Bm,0,none⟩)]) rfl trivial (enters_of func95 (by kernel_rfl) rfl) (fun _=>rfl)
  (fun L _ _=>L.length<E.length) KeepsWalks (StW W1.heap.size) (fun ks=>ks.Perm (E.map Prod.fst))
  (q7z (3 - 1) wF Bm b E W1 a6 wF A)
  (fun O h2=>O.trans h2)
  (fun W l o o' _ hl _ hw=>KeepsWalks.putObj o' hl hw)
  (fun L W=>KsI h w L W)
  (fun s X X' hs a9=>StW.own a0 hs a9)
  (fun X X' a9 k o _ hk _ hw=>a9.keep k o hk hw)
  a0
  (fun s x X l o o' a8 _ _ _=>a8)
  ⟨⟨_,k0,uN _ _ _ _⟩,U⟩
  (fun x=>{tmps:= #[.slice none 0 0,.func (.func 95) #[] #[.pointer (some ⟨Bm,0,none⟩)],.pointer (some ⟨h,0,none⟩),undef,.slice none 0 0,z7U x,.func (.func 95) #[] #[.pointer (some ⟨Bm,0,none⟩)],z7U x,undef,undef,undef,undef,undef],defers:= []}) ?assign ?body ?done
 case assign=>
  clear hh a2;intro l x W K hK
  gi_wp2
  exact hK
 case body=>
  rintro l L x W ⟨⟨v,c1,I⟩,J⟩ a8;obtain⟨av,cv,rfl⟩:=z9f I;obtain⟨f1,f2,f3⟩:=z0v c1;have aM:L.length<=1000000:=wF
  obtain⟨np,a7⟩:=zN L.length;rw[<-a7]at I aM f1 c1;obtain⟨iU,aL,aO,aR,aS⟩:=oq q3B;have HN:=z7 a7;have HR:=z7 I;have HL:=z7 J;have C1:=z7 c1;have Y:=z7 (z0f (ownsRow_below I (q5 W (.cells #[z7U x] 40)) wE) (wJ (h+1)));have aG:=z7 (y1x W #[z7U x] 40 W.heap.size 1 1 rfl wG rfl);have aD:h+1<=W.heap.size:=wF
  have aB:=z7 (q5 W (.cells #[z7U x] 40));clear a2 N A a0 hm a6 I J c1 a8 a7 k0 U aF aA hh
  gi_wp2_with (gi_at_builtin;go_loud (refine z3Y rfl _ _ 68 rfl (h+1) 40 iU (.int .u32 0) 1 4 underlying68 aL aO aR aS rfl wG _ np _ rfl (by exact Y.o) _ 1 [z7U x] rfl (by exact aG.o) (by simp[Value.oneCell']) (by unfold maxLen;omega) wF (by simp;omega) ?_);intro v1 w1 A a5 aN;clear aN;obtain⟨a1,a3,rfl⟩:=z9f A;have aE:=z7 A;have aC:=z7 (show(W.alloc (.cells #[z7U x] 40)).grownBy w1 (Value.slice av np cv).ownBlock from a5);have a4:=((a5.block h (by simp;omega) (fun e=>by have:=(HR.o.lt _ e.symm).1;omega)).trans (aB.o.block _ f3)).trans C1.o;obtain⟨e1,e2,e3⟩:=z0v a4;have aH:=z7 a4;clear A a5 a4)
  have K0:KeepsOthers W (w1.setCell ⟨h,0,none⟩ (.slice a1 (np+1) a3)):=by
   refine(KeepsOthers.alloc W (.cells #[z7U x] 40)).trans ((KeepsOthers.of_grownBy aC.o fun j o ej hj=>?_).trans (KeepsOthers.setCell w1 _ _));rcases Y.o.2 with⟨e2,_⟩|⟨g,aX,aY,e2,_,aJ,_⟩
   .rw[e2]at ej;cases ej
   rw[e2]at ej;obtain rfl:g=j:=by simpa[Value.ownBlock]using ej
   rw[aJ]at hj;cases hj;rfl
  refine⟨K0.from _,⟨K0.size,fun k o hk hw=>K0.same k o hk (by cases o<;>first|rfl|cases hw)⟩,⟨.slice a1 (np+1) a3,?_,?_⟩,?_⟩
  .have:=z0a aH.o 0 (.slice a1 (np+1) a3);simpa using this
  .rw[wP,<-HN.o,uV];exact j7 aE.o fun k hk=>q7 (by have:=(aE.o.lt k hk).1;omega)
  have O:=HL.o;have h2:=aC.o;have h4:=aB.o;refine⟨(h2.os.trans h4.os).trans O.os,(h2.tape.trans h4.tape).trans O.tape,(h2.output.trans h4.output).trans O.output,by have:=h2.size;have:=O.size;have:=h4.size;rw[z7n];omega,fun k hk=>?_⟩;rw[q7 wF,h2.block k (by have:=h4.size;omega) (fun e=>by have:=(HR.o.lt _ e.symm).1;omega),h4.block k wF];exact O.block k hk
 case done=>
  rintro D xs W hD hS ⟨⟨v,c1,I⟩,J⟩ hK;obtain⟨av,cv,rfl⟩:=z9f I;obtain⟨f1,f2,f3⟩:=z0v c1;have HR:=z7 I;have HL:=z7 J;have HK:=z7 hK;have HS:=z7 hS;clear hh N A a0 hm a6 I J c1 hS k0 U aF aA hK
  gi_wp2
  refine⟨wH,.inl ⟨_,_,rfl,run_takeDeferred HK.o,?_⟩⟩;refine⟨_,results_tmp rfl _ _ _,av,cv,xs,rfl,HS.o,?_,?_⟩
  .rw[<-HH.o];exact z0f (ownsRow_putObj HR.o _ HK.o rfl) wF
  rw[<-HH.o];have O:=HL.o;exact⟨O.os,O.tape,O.output,by have:=O.size;simpa using this,fun k hk=>(World.putObj_heap_other wF).trans (O.block k hk)⟩
theorem y9f(O b:Nat)(E:List (Int×z0I))(w:World)(R:w.cell? ⟨O,0,none⟩=some (.map (some b)))(J:O<w.heap.size)(I:y0S w b E)(A:E.length<=1000000):
  Calls prog 93 #[.func (.func 95) #[] #[.pointer (some ⟨O,0,none⟩)]] w fun e w'=>∃(a:Option Addr) (c n:Nat) (N:List Int),e= .returned (.slice a n c)/\n=N.length/\N.Perm (E.map Prod.fst)/\w'.ownsRow w.heap.size 40 1 (.slice a n c) n (N.map z7U)/\Below w.heap.size w w':=by
 have H:=z7 (q0M O b E w R J I A);clear I R J A;go_enter func93,ntmps93;go_wp2_with (go_at_call 130;refine H.o.mono ?_;clear H;rintro e w' ⟨a,c,N,rfl,U,L,hb⟩);go_ret;exact⟨a,c,_,N,rfl,rfl,U,L,hb⟩
theorem q0R(O b:Nat)(E:List (Int×z0I))(w:World)(hm:w.cell? ⟨O,0,none⟩=some (.map (some b)))(N:O<w.heap.size)(J:y0S w b E)(I:E.length<=255):
  Calls prog 47 #[.func (.func 95) #[] #[.pointer (some ⟨O,0,none⟩)]] w fun e w'=>∃(a:Option Addr) (c n:Nat) (L:List Int),e= .returned (.slice a n c)/\n=L.length/\L.Perm (E.map Prod.fst)/\w'.ownsRow w.heap.size 40 1 (.slice a n c) n ((z1K L).map z7U)/\Below w.heap.size w w':=by
 have H:=z7 (y9f O b E w hm N J wF);have HL:=z7 I;clear J hm N I;go_enter func47,ntmps47;go_wp2_with (go_at_call 93;refine H.o.mono ?_;clear H;rintro e w1 ⟨a,c,n,L,rfl,R,Y,A,hb⟩;have HN:=z7 R;have HP:=z7 Y;have HB:=z7 hb;have U:=z7 (q3H w.heap.size a c L w1 (by rw[<-R];exact A) (by have:=HL.o;have:=Y.length_eq;simp at this;omega));rw[<-R]at U;have HF:=z7 (fun k (hk:(Value.slice a n c).ownBlock=some k)=>(A.lt k hk).1);clear R Y hb A);go_wp2_with (go_at_call 94;refine U.o.mono ?_;clear U;rintro e w2 ⟨rfl,A,hg⟩;have HR:=z7 A;have HG:=z7 hg;clear A hg);go_wp2;go_ret;exact⟨a,c,n,L,rfl,HN.o,HP.o,HR.o,HB.o.grown HG.o HB.o.size fun k e=>HF.o k e⟩
theorem y3C(O L B:Nat)(E:List (Int×z0I))(b:z0h)(S:Nat->Prop)(w:World)(h:z0w w O L E b B S):
  Calls prog 19 #[.pointer (some ⟨O,0,none⟩)] w fun e w'=>∃(a:Option Addr) (c n:Nat) (U:List Int),e= .returned (.slice a n c)/\n=U.length/\U.Perm (E.map Prod.fst)/\w'.ownsRow w.heap.size 40 1 (.slice a n c) n ((z1K U).map z7U)/\Below w.heap.size w w':=by
 have J:E.length<=255:=by have:=h.few;omega
 have A:=h.blk;have I:=h.map;have h2:w.cell? ⟨O,2,none⟩=some (.map (some L)):=by simp[World.cell?,A]
 have a2:O<w.heap.size:=(wI.1 A).1;have hf:w.frozen? ⟨O,2,none⟩=false:=by simp[World.frozen?,A]
 have N:Below w.heap.size w (w.alloc (.cells #[.map (some L)] 142)):=q5 w _;have a1:L<w.heap.size:=by obtain⟨es,a0,hb,_⟩:=I;exact(wI.1 hb).1
 have H:=z7 (q0R w.heap.size L E (w.alloc (.cells #[.map (some L)] 142)) (z0v (World.alloc_heap_new w _)).1 wH (I.same (N.block L a1)) J);have Y:=z7 N;clear h A I N J;go_enter func19,ntmps19;go_wp2_with (go_at_call 48;refine(q5y L _).mono ?_;rintro e w1 ⟨rfl,rfl⟩);go_wp2_with (go_at_call 47;refine H.o.mono ?_;clear H;rintro e w1 ⟨a,c,n,U,rfl,hn,hp,R,hb⟩;have HN:=z7 hn;clear hn);go_ret;exact⟨a,c,n,U,rfl,HN.o,hp,z0f R wH,Y.o.trans (hb.mono wH)⟩
