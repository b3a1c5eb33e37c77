/-
  A map's keys, sorted: maps.Keys, slices.Sorted at keys of 32 bits. First: a map ranged over inside a fence.
-/
import Derived.Test.YtpocjegemokjgaaGreatDoorZKeFKfMBkOKnA
import Derived.Sort.MapsRangeIn
import Derived.RangeFuncGives
import Derived.RangeFuncNested
import Derived.Shelf.Abstract
import Derived.TacticsInMore
import Derived.LoopNIn
import Derived.LoopIn
import Derived.OwnWalkIn
namespace Go.Proofs.YtpocjegemokjgaaGreatDoor
open Go.Proofs.Tryz
set_option linter.all false
set_option maxRecDepth 100000
set_option maxHeartbeats 12800000
section
open Go.RowKit Go.Maps Go.Shelf
section
variable {κ ν:Type} {P:Program} {kT:TypeId} {kv:κ->Value} {kl:κ->Lit} {ok:κ->Prop}
variable {w w':World} {sh:Value->Bool} {f:ν->Value} {b:Nat} {E:List (κ×ν)}
variable {F:Fence} {n:Nat} {ops:Array Oper} {rest:List Oper} {o:Oper} {a:Act} {Q:Exit->Act->World->Prop} [DecidableEq κ]
theorem y0m(K:z5d P kT kv kl ok)(O:o.guard=none)(m:Operand)(t:TypeId)(B:o.op=Op.range t m)(e:TypeId)(Y:P.underlying t=some (.map kT e))(R:a.eval m= .map (some b))(A:z3J w P kT kl sh f b E)
  (N:∀w',z2L w' P kT kl ok sh f b w.heap.size E E->w.grownBy w' none->w'.heap.size=w.heap.size+1->wpListIn F n P ops Q rest (a.put o.dst (.pointer (some ⟨w.heap.size,0,none⟩))) w'):wpListIn F n P ops Q (o::rest) a w:=by
 refine wpListIn_range_own w O m t B kT e K.keyed Y (z4f sh) b E.length (MD kl f E) R A fun w' I J L=>N w' ⟨_,_,I,fun k hk=>?_,fun p U=>U,(A.mok K).1⟩ J L;unfold MD;rw[Maps.has_eq,List.any_map,Bool.eq_iff_iff,List.any_eq_true,List.any_eq_true];simp[K.same]
theorem y1m{β:Type}{r:Nat}{R:List (κ×ν)}(K:z5d P kT kv kl ok)(hg:o.guard=none)(it:Operand)(aC:o.op=Op.next it false)(I:β->Value)(a3:∀v,sh v=true->∃c,v=I c)
  (hit:a.eval it= .pointer (some ⟨r,0,none⟩)) (h:z2L w P kT kl ok sh f b r E R)
  (L:R= []->wpListIn F n P ops Q rest (a.put o.dst (.tuple #[.bool false])) w)
  (N:∀(p:κ×ν) (c:β) (w':World),p∈R->f p.2=I c->z2L w' P kT kl ok sh f b r E (z2d p.1 R)->w.grownBy w' (some r)->w'.heap.size=w.heap.size->w'.rangeLeft b r<w.rangeLeft b r->
   (Instr.entry (.pointer (some ⟨r,0,none⟩))).run P w'= .ok (.tuple #[kv p.1,I c]) w'->wpListIn F n P ops Q rest (a.put o.dst (.tuple #[.bool true,kv p.1,I c])) w'):wpListIn F n P ops Q (o::rest) a w:=by
 obtain⟨left,cnt,U,hl,hm,B⟩:=h;have A:∀k,ok k->left (kl k)=R.any fun p=>decide (p.1=k):=hl;have hE:=(z5w U.owns).mok K;refine wpListIn_next_ranges w hg it aC kT K.keyed (z4f sh) kv I (fun key l hk=>by obtain⟨k,h1,_⟩:=K.inv _ _ hk;exact⟨k,h1⟩) (fun v y hv=>a3 v (z4B hv).2) b r E.length (MD kl f E) left cnt hit U (fun h0 a9=>?_) (fun x c l y w' Y a0 aA hv a4 J aB a6 aE a5=>?_)
 ·refine L ?_
  match R,B,A with
  | [],_,_=>rfl
  | p::R,B,A=>
   have:=A p.1 (B.2 p (by simp));rw[a9]at this;simp at this
 ·obtain⟨k,a7,rfl,a8⟩:=K.inv _ _ a0;obtain rfl:=K.inj _ _ a7;have h1:=A x a8;rw[aA]at h1;obtain⟨p,hp,a2⟩:=List.any_eq_true.1 h1.symm;simp only[decide_eq_true_eq]at a2;subst a2;have h2:=a4 (.held undef);rw[y5J f K.same,z9Y hE.1 (hm p hp),(z4B hv).1]at h2;simp only[Option.map_some,Option.getD_some,DataW.held.injEq]at h2;refine N p c w' hp h2 ⟨_,Y,J,fun k hk=>?_,fun q O=>hm q ((z3g p.1 q R).1 O).1,⟨B.1.filter _,fun q O=>B.2 q ((z3g p.1 q R).1 O).1⟩⟩ a6 aE (by rw[J.left_eq,U.left_eq];exact aB) a5;rw[A k hk,Bool.eq_iff_iff];simp only[Bool.and_eq_true,List.any_eq_true,decide_eq_true_eq,Bool.not_eq_true'];constructor
  ·rintro⟨⟨q,O,rfl⟩,a1⟩;refine⟨q,(z3g _ _ _).2 ⟨O,fun e=>?_⟩,rfl⟩;rw[e,(K.same _ _).2 rfl]at a1;cases a1
  ·rintro⟨q,O,rfl⟩;obtain⟨h3,h4⟩:=(z3g _ _ _).1 O;refine⟨⟨q,h3,rfl⟩,?_⟩;cases hs:(kl q.1).sameKey (kl p.1)with
   | false=>rfl
   | true=>exact absurd ((K.same _ _).1 hs) h4
end
attribute [local go_sem] Oper.semAt_some
theorem y9c:∀v,q2t v=true->∃c:Option Addr,v= .pointer c
 | .pointer c,_=>⟨c,rfl⟩
theorem z2L.walks{κ ν:Type} [DecidableEq κ]{w w':World}{P:Program}{kT:TypeId}{kl:κ->Lit}{ok:κ->Prop}{sh:Value->Bool}{f:ν->Value}{b r:Nat}{E R:List (κ×ν)}(h:z2L w P kT kl ok sh f b r E R)(I:KeepsWalks w w'):z2L w' P kT kl ok sh f b r E R:=by
 obtain⟨left,cnt,A,B⟩:=h;exact⟨left,cnt,A.of_walks I,B⟩
theorem z2L.left_walks{κ ν:Type} [DecidableEq κ]{w w':World}{P:Program}{kT:TypeId}{kl:κ->Lit}{ok:κ->Prop}{sh:Value->Bool}{f:ν->Value}{b r:Nat}{E R:List (κ×ν)}(h:z2L w P kT kl ok sh f b r E R)(B:KeepsWalks w w'):w'.rangeLeft b r=w.rangeLeft b r:=by
 obtain⟨left,cnt,A,I⟩:=h;rw[(A.of_walks B).left_eq,A.left_eq]
theorem z2L.iterw{κ ν:Type} [DecidableEq κ]{w:World}{P:Program}{kT:TypeId}{kl:κ->Lit}{ok:κ->Prop}{sh:Value->Bool}{f:ν->Value}{b r:Nat}{E R:List (κ×ν)}(h:z2L w P kT kl ok sh f b r E R):∃o:Obj,w.heap[r]? =some o/\o.isWalk=true:=by
 obtain⟨left,cnt,A,B⟩:=h;exact A.iter_walk
theorem q3o(A:Nat)(w:World):Calls prog 35 #[.map (some A)] w fun e w'=>
  e= .returned (.func (.func 80) #[] #[.pointer (some ⟨w.heap.size,0,none⟩)])/\w'=w.alloc (.cells #[.map (some A)] 120):=by
 go_enter func35,ntmps35;go_wp2;go_ret;exact⟨by simp,rfl⟩
theorem q0q(F:Fence)(n:Nat)(a2:F.fn 80)(aA:F.round=none)(hn:1<=n)(l Bm b:Nat)(E:List (Int×z0C))(J:List Int->World->Prop)
  (hY:∀pre x W,J pre W->pre.length<E.length->YieldAt F (n - 1) prog l #[z6Z x] W fun e W'=>e= .returned (.bool true)/\J (pre++ [x]) W'/\KeepsWalks W W')
  (W:World) (hJ:AbidesFrom W.heap.size J) (hm:W.cell? ⟨Bm,0,none⟩=some (.map (some b))) (L:z9P W b E) (h0:J [] W):
  CallsIn F n prog 80 #[.func (.yield l) #[] #[],.pointer (some ⟨Bm,0,none⟩)] W fun e W'=>(∃v,e= .returned v)/\∃A:List Int,A.Perm (E.map Prod.fst)/\J A W':=by
 refine callsIn_of_wp func80 rfl a2 ?_ aA;simp only[ntmps80,List.size_toArray,List.length_cons,List.length_nil,Nat.reduceAdd,Nat.reduceSub,Array.replicate_succ,Array.replicate_zero,List.push_toArray,List.append_toArray,List.nil_append,List.cons_append]
 gi_wp2_with (gi_at_range;refine y0m z5a rfl _ 120 rfl 92 underlying120 rfl L ?_;intro w0 a1 a6 aF)
 go_frame
 gi_loopw [3] (fun _ wr=>∃(R:List (Int×z0C)) (A:List Int),Hid (z2L wr prog 40 z4p (fun n=>(Lit.int .u32 n).wf=true) q2t q6e b W.heap.size E R)/\Hid ((A++R.map Prod.fst).Perm (E.map Prod.fst))/\J A wr) (fun _ wr=>wr.rangeLeft b W.heap.size)
 case atStart=>
  exact⟨E, [],z7 a1,z7 (List.Perm.refl _),hJ [] W w0 none h0 a6 (fun r e=>by cases e)⟩
 case round=>
  obtain⟨R,A,hr,hp,O⟩:=hrel;have a5:=z7 (by obtain⟨_,_,_,_,_,h4⟩:=hr.o;exact h4:MOk (fun n=>(Lit.int .u32 n).wf=true) R)
  gi_wp2_with (gi_at_next;refine y1m z5a rfl _ rfl (fun c:Option Addr=>Value.pointer c) y9c rfl hr.o ?_ ?_)
  ·intro hR;subst hR
   gi_wp2
   go_end0
   exact⟨⟨_,rfl⟩,A,by simpa using hp.o,O⟩
  ·intro pk px c w2 B a0 I a7 aB N aC;obtain⟨p,ep⟩:∃p:Int×z0C,p=(pk,px):=⟨_,rfl⟩;obtain rfl:pk=p.1:=by rw[ep]
   obtain rfl:px=p.2:=by rw[ep]
   clear ep;have I:=z7 I;have a8:=z7 (show((A++ [p.1])++(z2d p.1 R).map Prod.fst).Perm (E.map Prod.fst) by
    have h1:=((y2L a5.o B).map Prod.fst).symm;rw[List.append_assoc];exact(List.Perm.append_left A (by simpa using h1.symm)).trans hp.o)
   have Y:A.length<E.length:=by
    have h1:=hp.o.length_eq;have h2:0<R.length:=List.length_pos_of_mem B;simp at h1;omega
   have a3:J A w2:=hJ A wr w2 (some W.heap.size) O a7 (fun r e=>by cases e;exact⟨Nat.le_refl _,hr.o.iterw⟩);obtain⟨fn,tmps,assign,body,hy,hR⟩:=hY A p.1 w2 a3 Y;have a0:=z7 a0;have N:=z7 N;have aE:=z7 B;clear aB B hY hJ hm L h0
   gi_wp2
   refine hR.mono ?_;rintro e W3 ⟨rfl,a4,U⟩
   gi_wp2
   have a9:=z7 (I.o.walks U)
   go_roundw
   case rel=>exact⟨_,A++ [p.1],a9,a8,a4⟩
   case measure=>rw[I.o.left_walks U];exact N.o
def StW(B:Nat)(X X':World):Prop:=∃row,X.grownBy X' row/\∀r,row=some r->B<=r/\∃o:Obj,X.heap[r]? =some o/\o.isWalk=true
theorem StW.keep{B:Nat}{X I:World}(h:StW B X I)(k:Nat)(o:Obj)(A:X.heap[k]? =some o)(O:o.isWalk=false):I.heap[k]? =some o:=by
 obtain⟨row,N,R⟩:=h;refine(N.block k (Array.getElem?_eq_some_iff.1 A).1 fun e=>?_).trans A;obtain⟨_,U,J,L⟩:=R k e.symm;rw[A]at J;cases J;rw[O]at L;cases L
theorem StW.own{α:Type}{B:Nat}{I:α->World->Prop}(L:OwnFrom B I){s:α}{X A:World}(O:I s X)(h:StW B X A):I s A:=by
 obtain⟨row,N,J⟩:=h;exact L s X A row O N fun r e=>⟨(J r e).1,(J r e).2.imp fun o ⟨h1,h2⟩=>⟨h1,by cases o<;>first|rfl|cases h2⟩⟩
theorem z8K{F:Fence}{n:Nat}{P:Program}{α:Type}{g:Operand}{ps:Array Tmp}{assign body:Code}{Q:Exit->Act->World->Prop}{a:Act}{w:World}
  (aU:F.round=none) (h1:1<=n) {gf:Nat} {lb:Array Value} (hg:a.eval g= .func (.func gf) #[] lb) (aE:F.fn gf) (eg:∀args w,(callFunc gf args).run P w= .ok (.enter gf args) w)
  {encs:α->Array Value} (aT:∀x,(encs x).size=ps.size) (Ok:List α->α->World->Prop) (Kp St:World->World->Prop) (S:List α->Prop)
  (aB:y7V F (n - 1) P gf lb encs Ok Kp St S w)
  (a4:∀{A B C:World},Kp A B->Kp B C->Kp A C) (a2:∀(W:World) (l:Nat) (o o':Obj),w.heap.size<=l->W.heap[l]? =some o->o.isCells=false->o.isWalk=false->Kp W (W.putObj l o'))
  (I:List α->World->Prop) (a5:∀s X X',I s X->St X X'->I s X') (a6:∀X X',St X X'->∀(k:Nat) (o:Obj),w.heap.size<=k->X.heap[k]? =some o->o.isCells=false->o.isWalk=false->X'.heap[k]? =some o)
  (hI:OwnFrom w.heap.size I) (aI:∀s x X l o o',Ok s x X->w.heap.size<=l->X.heap[l]? =some o->o.isCells=false->Ok s x (X.putObj l o')) (h0:I [] w) (a₁:α->Act)
  (O:∀(l:Nat) (x:α) (W:World) (K:Act->World->Prop),K (a₁ x) W->
   assign.wpIn (F.inRound l) (n - 1 - 1) P (Exit.then K (fun _ _ _=>False)) {tmps:=(ps.zip (encs x)).foldl (fun t (p,v)=>t.setIfInBounds p v) a.tmps,defers:= []} W)
  (a0:∀(l:Nat) (pre:List α) (x:α) (W:World),I pre W->Ok pre x W->body.wpIn (F.inRound l) (n - 1 - 1) P (y3J w.heap.size Kp (I (pre++ [x])) W) (a₁ x) W)
  (a1:∀(D:Nat) (xs:List α) (W:World),w.heap.size<=D->S xs->I xs W->W.heap[D]? =some (.deferred (some []))->Q .normal {a with defers:={target:= .collected D,args:= #[]}::a.defers} W):
  (Code.rangeFunc g ps assign body).wpIn F n P Q a w:=by
 refine wpIn_rangeFunc ?_;intro fn aL;rw[aU];obtain⟨L,J⟩:∃L:LoopState->Option Code->Loop,L=fun st pe=>{state:=st,pending:=pe,fn,tmps:=a.tmps,params:=ps,assign,body,defers:=w.heap.size}:=⟨_,rfl⟩;obtain⟨U,N⟩:∃U,(w.alloc (.deferred (some []))).alloc (.loop (L .ready none))=U:=⟨_,rfl⟩;have aH:U.heap[w.heap.size+1]? =some (.loop (L .ready none)):=by
  rw[<-N];have:=World.alloc_heap_new (w.alloc (.deferred (some []))) (.loop (L .ready none));rwa [World.size_alloc]at this
 have aG:U.heap[w.heap.size]? =some (.deferred (some [])):=by
  rw[<-N];exact(Below.heap_alloc _ _ _ (by simp)).trans (World.alloc_heap_new w _)
 have aF:I [] U:=by rw[<-N];exact hI.alloc _ (hI.alloc _ h0)
 have aJ:Chg [] [] w U:=by
  rw[<-N];exact Chg.of_below (((Below.refl _ w).alloc (Nat.le_refl _) _).alloc (by simp) _)
 refine⟨w.heap.size+1, [{target:= .collected w.heap.size,args:= #[]}],U,{target:= .fn (.func gf) lb,args:= #[.func (.yield (w.heap.size+1)) #[] #[]]},U,gf,
  #[.func (.yield (w.heap.size+1)) #[] #[]]++lb,U,?_,?_,?_,?_,fun _=>h1,?_⟩
 ·rw[<-N,J];exact run_enterLoop_outer _ _ _ _ _
 ·simp only[resolve,hg];simp[go_sem]
 ·intro f' a7;simp[Target.leads]at a7;subst a7;exact aE
 ·simp[invoke,go_sem,eg]
 ·refine(aB (w.heap.size+1)
   (fun pre W=>I pre W/\W.heap[w.heap.size+1]? =some (.loop (L .ready none))/\W.heap[w.heap.size]? =some (.deferred (some [])))
   U aJ (by omega)
   (fun s X X' hs aC=>by
    have hk:=a6 X X' aC;exact⟨a5 s X X' hs.1 aC,hk _ _ (by omega) hs.2.1 rfl rfl,hk _ _ (Nat.le_refl _) hs.2.2 rfl rfl⟩)
   ?_ ⟨aF,aH,aG⟩).mono ?_
  ·rintro pre x W ⟨hi,Y,hk⟩ aS;have aR:w.heap.size+1<W.heap.size:=(Array.getElem?_eq_some_iff.1 Y).1;have hy:=run_yield (P:=P) (args:=encs x) Y (by rw[J];exact aT x);rw[J]at hy;refine⟨fn,_,assign,body,hy,roundIn_of_wpIn aL (O _ x W _ ⟨_,run_beginRound Y (by rw[J]),?_⟩)⟩;have aO:(W.putObj (w.heap.size+1) (.loop {L .ready none with state:= .busy})).heap[w.heap.size+1]? =some (.loop {L .ready none with state:= .busy}):=World.putObj_heap_same aR;have aN:(W.putObj (w.heap.size+1) (.loop {L .ready none with state:= .busy})).heap[w.heap.size]? =some (.deferred (some [])):=(World.putObj_heap_other (by omega)).trans hk;have aV:Kp W (W.putObj (w.heap.size+1) (.loop {L .ready none with state:= .busy})):=a2 _ _ _ _ (by omega) Y rfl rfl;refine wpIn_mono (a0 _ pre x _ (hI.putObj _ hi (by omega) Y rfl) (aI _ _ _ _ _ _ aS (by omega) Y rfl)) ?_;rintro e a3 W3 hp;cases e with
   | normal=>
    obtain⟨a8,a9,aM⟩:=hp;have R:=a8.same _ _ (by omega) aO rfl;have hr:=run_endRound (P:=P) none R;rw[J]at hr;have aA:=R;rw[J]at aA;refine⟨_,_,hr,rfl,⟨hI.putObj _ aM (by omega) R rfl,?_,(World.putObj_heap_other (by omega)).trans (a8.same _ _ (Nat.le_refl _) aN rfl)⟩,a4 (a4 aV a9) (a2 _ _ _ _ (by omega) R rfl rfl)⟩;rw[J];exact World.putObj_heap_same (Array.getElem?_eq_some_iff.1 R).1
   | ret=>exact hp.elim
   | exit id=>exact hp.elim
   | goto t=>exact hp.elim
   | panic ch=>exact hp.elim
   | outgrown=>exact hp.elim
  ·rintro e W2 ⟨⟨v,rfl⟩,xs,hS,hi,Y,hk⟩;exact⟨none,_,by have:=run_endLoop (P:=P) Y (by rw[J];simp);rw[J]at this;exact this,a1 _ xs _ (Nat.le_refl _) hS (hI.putObj _ hi (by omega) Y rfl) ((World.putObj_heap_other (by omega)).trans hk)⟩
theorem q5d(n:Nat)(hn:1<=n)(B b:Nat)(E:List (Int×z0C))(w:World)(hm:w.cell? ⟨B,0,none⟩=some (.map (some b)))(I:B<w.heap.size)(A:z9P w b E):
  y7V Fence.wide n prog 80 #[.pointer (some ⟨B,0,none⟩)] (fun x:Int=> #[z6Z x]) (fun pre _ _=>pre.length<E.length) KeepsWalks (StW w.heap.size) (fun ks=>ks.Perm (E.map Prod.fst)) w:=by
 intro l J W L hl hJ hY U;have hb:b<w.heap.size:=by obtain⟨es,clock,hb,_⟩:=A;exact(Array.getElem?_eq_some_iff.1 hb).1
 refine q0q Fence.wide n trivial rfl hn l B b E J (fun pre x O Y h2=>hY pre x O Y h2) W (fun s X R row hs hg N=>hJ s X R hs ⟨row,hg,fun r e=>⟨Nat.le_trans L.size (N r e).1,(N r e).2⟩⟩) ?_ (A.same (L.block b hb (by simp))) U;exact(World.cell?_of_block (w:=w) (a:=⟨B,0,none⟩) (L.block B I (by simp))).trans hm
attribute [local go_sem] Oper.semAt_some
structure KsI (h:Nat) (w0:World) (ks:List Int) (W:World):Prop where
 at_:∃v,W.heap[h]? =some (.cells #[v] 60)/\W.ownsRow (h+1) 40 1 v ks.length (ks.map z6Z)
 low:Below h w0 W
theorem KsI.turn{h:Nat}{w0 W J:World}{Y:List Int}{row:Option Nat}(hI:KsI h w0 Y W)(B:W.grownBy J row)(h0:h<=w0.heap.size)(U:∀r,row=some r->h+1<=r/\∃o:Obj,W.heap[r]? =some o/\o.isCells=false):KsI h w0 Y J:=by
 obtain⟨⟨v,L,N⟩,O⟩:=hI;have A:=fun r e=>(U r e).2;refine⟨⟨v,(grownBy_keeps_cells B A L rfl).trans L,j7 N fun k R=>?_⟩,O.grown B (Nat.le_trans h0 O.size) fun r e=>by have:=(U r e).1;omega⟩;rcases N.2 with⟨rfl,_⟩|⟨g,cap,a0,rfl,_,I,_⟩
 ·cases R
 ·obtain rfl:g=k:=by simpa[Value.ownBlock]using R
  exact grownBy_keeps_cells B A I rfl
theorem y9S(U b:Nat)(E:List (Int×z0C))(w:World)(hm:w.cell? ⟨U,0,none⟩=some (.map (some b)))(aV:U<w.heap.size)(J:z9P w b E)(aR:E.length<=1000000):
  Calls prog 119 #[.slice none 0 0,.func (.func 80) #[] #[.pointer (some ⟨U,0,none⟩)]] w fun e w'=>
   ∃(a:Option Addr) (c:Nat) (ks:List Int),e= .returned (.slice a ks.length c)/\ks.Perm (E.map Prod.fst)/\w'.ownsRow w.heap.size 40 1 (.slice a ks.length c) ks.length (ks.map z6Z)/\Below w.heap.size w w':=by
 refine(callsIn_wide (n:=3)).1 ?_;refine callsIn_of_wp_marks func119 rfl trivial ?_ rfl;simp only[ntmps119,List.size_toArray,List.length_cons,List.length_nil,Nat.reduceAdd,Nat.reduceSub,Array.replicate_succ,Array.replicate_zero,List.push_toArray,List.append_toArray,List.nil_append,List.cons_append]
 gi_wp2
 obtain⟨h,hh⟩:=zN w.heap.size;obtain⟨W1,N⟩:=zN (w.alloc (.cells #[.slice none 0 0] 60));have a0:W1.heap.size=h+1:=by rw[N,hh];simp
 have k0:W1.heap[h]? =some (.cells #[.slice none 0 0] 60):=by rw[N,hh];exact World.alloc_heap_new w _
 have O:Below h w W1:=by rw[N,hh];exact(Below.refl _ w).alloc (Nat.le_refl _) _
 have aE:b<w.heap.size:=by obtain⟨es,clock,hb,_⟩:=J;exact(Array.getElem?_eq_some_iff.1 hb).1
 have a5:W1.cell? ⟨U,0,none⟩=some (.map (some b)):=(World.cell?_of_block (w:=w) (a:=⟨U,0,none⟩) (O.block U (by omega))).trans hm;have A:z9P W1 b E:=J.same (O.block b (by omega));rw[<-N];simp only[<-hh];have HH:=z7 hh;have aS:=z7 a0;have a9:h<=w.heap.size:=by omega
 have aT:=z7 N;have Y:OwnFrom W1.heap.size (fun pre W=>KsI h w pre W):=fun s X X' row hs hg hr=>hs.turn hg a9 fun r e=>by have:=hr r e;rw[a0]at this;exact this
 clear N;refine z8K (encs:=fun x:Int=> #[z6Z x]) rfl (by omega) (gf:=80) (lb:= #[.pointer (some ⟨U,0,none⟩)]) rfl trivial (enters_of func80 (by kernel_rfl) rfl) (fun _=>rfl)
  (fun pre _ _=>pre.length<E.length) KeepsWalks (StW W1.heap.size) (fun ks=>ks.Perm (E.map Prod.fst))
  (q5d (3 - 1) (by omega) U b E W1 a5 (by omega) A)
  (fun L h2=>L.trans h2)
  (fun W l o o' _ hl _ hw=>KeepsWalks.putObj o' hl hw)
  (fun pre W=>KsI h w pre W)
  (fun s X X' hs a8=>StW.own Y hs a8)
  (fun X X' a8 k o _ hk _ hw=>a8.keep k o hk hw)
  Y
  (fun s x X l o o' a7 _ _ _=>a7)
  ⟨⟨_,k0,World.ownsRow_nil _ _ _ _⟩,O⟩
  (fun x=>{tmps:= #[.slice none 0 0,.func (.func 80) #[] #[.pointer (some ⟨U,0,none⟩)],.pointer (some ⟨h,0,none⟩),undef,.slice none 0 0,z6Z x,.func (.func 80) #[] #[.pointer (some ⟨U,0,none⟩)],z6Z x,undef,undef,undef,undef,undef],defers:= []}) ?assign ?body ?done
 case assign=>
  clear hh a0;intro l x W K hK
  gi_wp2
  exact hK
 case body=>
  rintro l pre x W ⟨⟨v,c1,B⟩,I⟩ a7;obtain⟨av,cv,rfl⟩:=z8I B;obtain⟨f1,f2,f3⟩:=z0u c1;have aJ:pre.length<=1000000:=by omega
  obtain⟨np,a6⟩:=zN pre.length;rw[<-a6]at B aJ f1 c1;obtain⟨iU,aI,aM,aN,aO⟩:=info_parts q0z;have HN:=z7 a6;have HR:=z7 B;have HL:=z7 I;have C1:=z7 c1;have R:=z7 (z0c (ownsRow_below B (q5 W (.cells #[z6Z x] 40)) (Nat.le_refl _)) (Nat.le_refl (h+1)));have aF:=z7 (y0t W #[z6Z x] 40 W.heap.size 1 1 rfl (by decide) rfl);have aX:h+1<=W.heap.size:=by omega
  have aA:=z7 (q5 W (.cells #[z6Z x] 40));clear a0 J A Y hm a5 B I c1 a7 a6 k0 O aE a9 hh
  gi_wp2_with (gi_at_builtin;go_loud (refine z3I rfl _ _ 60 rfl (h+1) 40 iU (.int .u32 0) 1 4 underlying60 aI aM aN aO rfl (by decide) _ np _ rfl (by exact R.o) _ 1 [z6Z x] rfl (by exact aF.o) (by simp[Value.oneCell']) (by unfold maxLen;omega) (by omega) (by simp;omega) ?_);intro v1 w1 A a4 aL;clear aL;obtain⟨a1,a2,rfl⟩:=z8I A;have aC:=z7 A;have aB:=z7 (show(W.alloc (.cells #[z6Z x] 40)).grownBy w1 (Value.slice av np cv).ownBlock from a4);have a3:=((a4.block h (by simp;omega) (fun e=>by have:=(HR.o.lt _ e.symm).1;omega)).trans (aA.o.block _ f3)).trans C1.o;obtain⟨e1,e2,e3⟩:=z0u a3;have aG:=z7 a3;clear A a4 a3)
  have K0:KeepsOthers W (w1.setCell ⟨h,0,none⟩ (.slice a1 (np+1) a2)):=by
   refine(KeepsOthers.alloc W (.cells #[z6Z x] 40)).trans ((KeepsOthers.of_grownBy aB.o fun j o ej hj=>?_).trans (KeepsOthers.setCell w1 _ _));rcases R.o.2 with⟨e2,_⟩|⟨g,cap,aU,e2,_,aH,_⟩
   ·rw[e2]at ej;cases ej
   ·rw[e2]at ej;obtain rfl:g=j:=by simpa[Value.ownBlock]using ej
    rw[aH]at hj;cases hj;rfl
  refine⟨K0.from _,⟨K0.size,fun k o hk hw=>K0.same k o hk (by cases o<;>first|rfl|cases hw)⟩,⟨.slice a1 (np+1) a2,?_,?_⟩,?_⟩
  ·have:=z0a aG.o 0 (.slice a1 (np+1) a2);simpa using this
  ·rw[List.length_append,<-HN.o,List.map_append];exact j7 aC.o fun k hk=>q7 (by have:=(aC.o.lt k hk).1;omega)
  ·have L:=HL.o;have h2:=aB.o;have h4:=aA.o;refine⟨(h2.os.trans h4.os).trans L.os,(h2.tape.trans h4.tape).trans L.tape,(h2.output.trans h4.output).trans L.output,by have:=h2.size;have:=L.size;have:=h4.size;rw[z6H];omega,fun k hk=>?_⟩;rw[q7 (by omega),h2.block k (by have:=h4.size;omega) (fun e=>by have:=(HR.o.lt _ e.symm).1;omega),h4.block k (by omega)];exact L.block k hk
 case done=>
  rintro D xs W hD hS ⟨⟨v,c1,B⟩,I⟩ hK;obtain⟨av,cv,rfl⟩:=z8I B;obtain⟨f1,f2,f3⟩:=z0u c1;have HR:=z7 B;have HL:=z7 I;have HK:=z7 hK;have HS:=z7 hS;clear hh J A Y hm a5 B I c1 hS k0 O aE a9 hK
  gi_wp2
  refine⟨by simp,.inl ⟨_,_,rfl,run_takeDeferred HK.o,?_⟩⟩;refine⟨_,results_tmp rfl _ _ _,av,cv,xs,rfl,HS.o,?_,?_⟩
  ·rw[<-HH.o];exact z0c (ownsRow_putObj HR.o _ HK.o rfl) (by omega)
  ·rw[<-HH.o];have L:=HL.o;exact⟨L.os,L.tape,L.output,by have:=L.size;simpa using this,fun k hk=>(World.putObj_heap_other (by omega)).trans (L.block k hk)⟩
theorem y6G(N b:Nat)(E:List (Int×z0C))(w:World)(O:w.cell? ⟨N,0,none⟩=some (.map (some b)))(I:N<w.heap.size)(B:z9P w b E)(A:E.length<=1000000):
  Calls prog 78 #[.func (.func 80) #[] #[.pointer (some ⟨N,0,none⟩)]] w fun e w'=>∃(a:Option Addr) (c n:Nat) (L:List Int),e= .returned (.slice a n c)/\n=L.length/\L.Perm (E.map Prod.fst)/\w'.ownsRow w.heap.size 40 1 (.slice a n c) n (L.map z6Z)/\Below w.heap.size w w':=by
 have H:=z7 (y9S N b E w O I B A);clear B O I A;go_enter func78,ntmps78;go_wp2_with (go_at_call 119;refine H.o.mono ?_;clear H;rintro e w' ⟨a,c,L,rfl,R,J,hb⟩);go_ret;exact⟨a,c,_,L,rfl,rfl,R,J,hb⟩
theorem y9X(N b:Nat)(E:List (Int×z0C))(w:World)(hm:w.cell? ⟨N,0,none⟩=some (.map (some b)))(L:N<w.heap.size)(I:z9P w b E)(B:E.length<=255):
  Calls prog 34 #[.func (.func 80) #[] #[.pointer (some ⟨N,0,none⟩)]] w fun e w'=>∃(a:Option Addr) (c n:Nat) (J:List Int),e= .returned (.slice a n c)/\n=J.length/\J.Perm (E.map Prod.fst)/\w'.ownsRow w.heap.size 40 1 (.slice a n c) n ((z5H J).map z6Z)/\Below w.heap.size w w':=by
 have H:=z7 (y6G N b E w hm L I (by omega));have HL:=z7 B;clear I hm L B;go_enter func34,ntmps34;go_wp2_with (go_at_call 78;refine H.o.mono ?_;clear H;rintro e w1 ⟨a,c,n,J,rfl,O,U,A,hb⟩;have HN:=z7 O;have HP:=z7 U;have Y:=z7 hb;have R:=z7 (q2W w.heap.size a c J w1 (by rw[<-O];exact A) (by have:=HL.o;have:=U.length_eq;simp at this;omega));rw[<-O]at R;have HF:=z7 (fun k (hk:(Value.slice a n c).ownBlock=some k)=>(A.lt k hk).1);clear O U hb A);go_wp2_with (go_at_call 79;refine R.o.mono ?_;clear R;rintro e w2 ⟨rfl,A,hg⟩;have HR:=z7 A;have HG:=z7 hg;clear A hg);go_wp2;go_ret;exact⟨a,c,n,J,rfl,HN.o,HP.o,HR.o,Y.o.grown HG.o Y.o.size fun k e=>HF.o k e⟩
theorem y2B(O L B:Nat)(E:List (Int×z0C))(b:z0j)(S:Nat->Prop)(w:World)(h:z0q w O L E b B S):
  Calls prog 15 #[.pointer (some ⟨O,0,none⟩)] w fun e w'=>∃(a:Option Addr) (c n:Nat) (U:List Int),e= .returned (.slice a n c)/\n=U.length/\U.Perm (E.map Prod.fst)/\w'.ownsRow w.heap.size 40 1 (.slice a n c) n ((z5H U).map z6Z)/\Below w.heap.size w w':=by
 have J:E.length<=255:=by have:=h.few;omega
 have A:=h.blk;have I:=h.map;have h2:w.cell? ⟨O,2,none⟩=some (.map (some L)):=by simp[World.cell?,A]
 have a1:O<w.heap.size:=(Array.getElem?_eq_some_iff.1 A).1;have hf:w.frozen? ⟨O,2,none⟩=false:=by simp[World.frozen?,A]
 have N:Below w.heap.size w (w.alloc (.cells #[.map (some L)] 120)):=q5 w _;have a0:L<w.heap.size:=by obtain⟨es,clock,hb,_⟩:=I;exact(Array.getElem?_eq_some_iff.1 hb).1
 have H:=z7 (y9X w.heap.size L E (w.alloc (.cells #[.map (some L)] 120)) (z0u (World.alloc_heap_new w _)).1 (by simp) (I.same (N.block L a0)) J);have Y:=z7 N;clear h A I N J;go_enter func15,ntmps15;go_wp2_with (go_at_call 35;refine(q3o L _).mono ?_;rintro e w1 ⟨rfl,rfl⟩);go_wp2_with (go_at_call 34;refine H.o.mono ?_;clear H;rintro e w1 ⟨a,c,n,U,rfl,hn,hp,R,hb⟩;have HN:=z7 hn;clear hn);go_ret;exact⟨a,c,n,U,rfl,HN.o,hp,z0c R (by simp),Y.o.trans (hb.mono (by simp))⟩
end
section
open Go.RowKit Go.Maps
def z4V(L:List Fr):List Value:=L.flatMap fun f=>(j9 f (.slice none 0 0)).toList
theorem y2b(L:List Fr)(f:Fr):z4V (L++ [f])=z4V L++(j9 f (.slice none 0 0)).toList:=by unfold z4V;rw[List.flatMap_append];simp
theorem q1d(rb bb mb B ep:Nat)(E:List (Int×z0C))(b:z0j)(S:Nat->Prop)(aD:ep<4294967296)(a3:∀id,(z0g b id).done.length<=1000000000)(w:World)(h:z0q w bb mb E b B S)(hr:z0z w rb bb ep):
  Calls prog 70 #[.pointer (some ⟨rb,0,none⟩)] w fun e w'=>∃a n c L,e= .returned (.slice a n c)/\n=L.length/\n<=64/\(∀f∈L,f.Ok/\f.b= [])/\w'.ownsRow w.heap.size 51 11 (.slice a n c) n (z4V L)/\Below w.heap.size w w':=by
 obtain⟨iF,aW,aN,aO,aR⟩:=info_parts y1p;have aB:=z7 (y2B bb mb B E b S w h);have H:=z7 h;have HR:=z7 hr;have a2:=z7 a3;obtain⟨r0,r1,rf⟩:=hr.cells;have lr:=hr.lt;have aC:E.length<=64:=by have:=h.few;omega
 have a4:∀p∈E,0<=p.1/\p.1<=4294967295:=fun p hp=>by
  have h9:=(h.map.mok z5a).1.2 p hp;have b5:=wf_u32 h9;omega
 have a8:=z7 a4;clear h hr a3 a4;go_enter func70,ntmps70;go_wp2_with fail;refine aB.o.mono ?_;rintro e w1 ⟨sa,sc,n,ks,rfl,hn,hp,Y,aI⟩;have b0:n<=64:=by rw[hn,hp.length_eq,List.length_map];exact aC
 have I:(z5H ks).length=n:=by rw[hn];unfold z5H;exact List.length_mergeSort ks
 obtain⟨ss,a7⟩:=zN (z5H ks);rw[<-a7]at Y I;have U:∀k∈ss,0<=k/\k<=4294967295:=fun k hk=>by
  have h1:k∈ks:=by rw[a7]at hk;unfold z5H at hk;exact(List.mergeSort_perm ks _).mem_iff.1 hk
  obtain⟨p,b1,rfl⟩:=List.mem_map.1 (hp.mem_iff.1 h1);exact a8.o p b1
 have HK:=z7 U;have aA:=z7 Y;have N:=z7 aI;have aU:=z7 I;clear U Y aI hn hp a7 I r0 r1 rf lr;go_wp2_with fail;go_loopw[3,12] (fun ov kv wr=>∃(k:Nat) (a:Option Addr) (c:Nat),ov= .slice a k c/\kv= .int .i64 (k:Nat)/\k<=n/\Hid (∃L:List Fr,k=L.length/\(∀f∈L,f.Ok/\f.b= [])/\wr.ownsRow w1.heap.size 51 11 (.slice a k c) k (z4V L))/\Hid (Below w1.heap.size w1 wr)) (fun _ kv _=>match kv with | .int _ y=>n - y.toNat|_=>0)
 case atStart=>exact⟨0,none,0,rfl,rfl,Nat.zero_le _,z7 ⟨[],rfl,(fun f hf=>by cases hf),World.ownsRow_nil _ _ _ _⟩,z7 (Below.refl _ _)⟩
 case round=>
  obtain⟨k,a,c,rfl,rfl,hk,hL,A⟩:=hrel;have b8:IntKind.i64.wrap ((k:Int)+1)=((k+1:Nat):Int):=z0n (by omega) (by omega);by_cases hkn:k<n
  ·have d1:decide ((k:Int)<(n:Int))=true:=decide_eq_true (by omega);have I:k<ss.length:=(by have:=aU.o;omega);obtain⟨id,hid⟩:∃id:Nat,ss[k]=(id:Int):=⟨ss[k].toNat,by have:=(HK.o _ (List.getElem_mem I)).1;omega⟩;have R:id<4294967296:=(by have:=(HK.o _ (List.getElem_mem I)).2;omega);have a1:Below w.heap.size w wr:=N.o.trans (A.o.mono N.o.size);obtain⟨g0,rfl,b9,b6⟩:∃g,sa=some ⟨g,0,none⟩/\g<wr.heap.size/\wr.cell? ⟨g,k,none⟩=some (.int .u32 (id:Nat)):=by
    have aM:=ownsRow_below aA.o A.o (Nat.le_refl _);rcases aM.2 with⟨-,e2⟩|⟨g,cap,b4,e1, -,e3, -⟩
    ·omega
    ·simp only[Value.slice.injEq]at e1;refine⟨g,e1.1,(Array.getElem?_eq_some_iff.1 e3).1,?_⟩;rcases(z0e aM).2 with⟨-,e2⟩|⟨ad,cp,e4,e5⟩
     ·omega
     ·simp only[Value.slice.injEq]at e4;have h4:=e5 k (z6Z ss[k]) (by rw[List.getElem?_map,List.getElem?_eq_getElem I];rfl);have aZ:ad=⟨g,0,none⟩:=(by have:=e4.1;rw[e1.1]at this;exact(Option.some.inj this).symm);rw[aZ,show(⟨g,0,none⟩:Addr).add k=⟨g,k,none⟩from by unfold Addr.add;split<;>simp_all,hid]at h4;exact h4
   have b7:(0:Int)<=k/\(k:Int)<n:=(by omega);have a5:=z7 (z9A rb bb mb B ep E b S 4 id R (a2.o id) wr (H.o.low a1) (H.o.serOk id) (HR.o.low a1));have hA:=y6w (b:=b) (k:=4) (ep:=ep) (id:=id) (by decide) aD R (H.o.serOk id) (a2.o id);obtain⟨af,aH⟩:=zN (z5u b 4 ep id);rw[<-aH]at a5 hA;have HA:=z7 hA;unfold frV j9 at a5;have b3:=z7 a1;clear aH hA hid I a1;go_wp2_with fail;refine a5.o.mono ?_;rintro e w5 ⟨rfl,a6⟩;obtain⟨L,aE,aF,aG⟩:=hL.o;have a0:Below wr.heap.size wr (w5.alloc (.cells (j9 af (.slice none 0 0)) 51)):=a6.trans ((q5 w5 _).mono a6.size);have O:=z7 (ownsRow_below aG a0 (Nat.le_refl _));have a9:=z7 (z3z w5 (j9 af (.slice none 0 0)) 51 1 11 (by decide) rfl);have J:w1.heap.size<=(w5.alloc (.cells (j9 af (.slice none 0 0)) 51)).heap.size:=Nat.le_trans A.o.size a0.size;have aS:=z7 a0;have aX:=z7 aF;have aV:=z7 aE;unfold j9 at O a9 J;clear a6 a0 aF aE aG;go_wp2_with (at_builtin;refine z1H rfl _ _ 38 rfl w1.heap.size 51 iF _ 11 72 underlying38 aW aN aO aR rfl (by decide) a k c _ rfl O.o _ 1 _ rfl a9.o (by decide) (by simp[Value.oneCell']) (by unfold maxLen;omega) (by omega) J ?_;intro g6 c6 w6 h6 aJ b2;have aY:=z7 h6;have aT:=z7 aJ;clear h6 aJ b2);refine⟨⟨k+1,some ⟨g6,0,none⟩,c6,rfl,rfl,by omega,z7 ⟨L++ [af],by rw[List.length_append,<-aV.o];rfl,fun f hf=>?_,?_⟩,z7 ?_⟩,by show n - ((k+1:Nat):Int).toNat<n - (k:Int).toNat;omega⟩
   ·rcases List.mem_append.1 hf with h|h
    ·exact aX.o f h
    ·rw[List.mem_singleton.1 h];exact HA.o
   ·rw[y2b];exact aY.o
   ·have h9:Below w1.heap.size w1 (w5.alloc (.cells (j9 af (.slice none 0 0)) 51)):=A.o.trans (aS.o.mono A.o.size);exact h9.grown aT.o J fun j hj=>(O.o.lt j hj).1
  ·have d1:decide ((k:Int)<(n:Int))=false:=decide_eq_false (by omega);have aL:k=n:=(by omega);subst aL;go_wp2;go_ret;obtain⟨L,h1,h2,h3⟩:=hL.o;exact⟨a,k,c,L,rfl,h1,b0,h2,z0c h3 N.o.size,N.o.trans (A.o.mono N.o.size)⟩
def q6a(rb bb ep' N:Nat)(s:Value)(w':World):Prop:=
 z0z w' rb bb ep'/\∃ga gn gc L,s= .slice ga gn gc/\gn=L.length/\gn<=64/\(∀y∈L,y.Ok/\y.b= [])/\w'.ownsRow N 51 11 (.slice ga gn gc) gn (z4V L)
def y3V(rb bb ep:Nat)(f:Fr)(w:World)(e:Ending)(w':World):Prop:=
 z0t (fun k=>k=rb) w w'/\
 ((f.epoch<ep/\z0z w' rb bb ep/\e= .returned (.tuple #[.agg z1b,.bool false,.slice none 0 0,.int .u16 170]))\/
  (¬f.epoch<ep/\∃s,e= .returned (.tuple #[.agg z1b,.bool false,s,.int .u16 0])/\q6a rb bb f.epoch w.heap.size s w'))
theorem q0W(U bb mb B ep:Nat)(E:List (Int×z0C))(b:z0j)(S:Nat->Prop)(f:Fr)(a:Option Addr)(n c:Nat)(hf:f.Ok)(a0:f.kind=1)(a5:∀id,(z0g b id).done.length<=1000000000)(w:World)(h:z0q w bb mb E b B S)(hr:z0z w U bb ep)(aJ:¬S U):
  Calls prog 30 #[.pointer (some ⟨U,0,none⟩),frV f (.slice a n c)] w (y3V U bb ep f w):=by
 have A:=z7 ((((z0K.start (fun _=>False) w).new (.cells (j9 f (.slice a n c)) 51)).new' (.cells z1b 84) (n:=w.heap.size+1) (by simp)));have J:=hr.lt;have H:=z7 (fun w' (ho:z0t (fun k=>k=U) w w')=>h.only ho (fun k hk e=>by subst e;exact aJ hk));have HR:=z7 hr;have aG:=hf.epoch;have aC:=z7 (fun w' h1 h3=>q1d U bb mb B f.epoch E b S aG a5 w' h1 h3);clear h hr aJ a5 hf;obtain⟨kind,epoch,series,ck,pb,pc,cnt,closed,sum,fb,fn⟩:=f;simp only at a0;subst a0;unfold y3V;unfold frV j9;unfold j9 at A;simp only at A aC aG ⊢;obtain⟨f0,f1,f2,f3,f4,f5,f6,f7,f8,f9,R,ff⟩:=z0o (A.o.get 1 rfl);have l1:=A.o.lt 1 rfl;have l0:=A.o.lt 0 rfl;have hs:=z7 (z0w (A.o.get 0 rfl) (n:=12) rfl);have hz:=z7 (z0y (A.o.get 0 rfl));go_enter func30,ntmps30;go_upto_region 4 with fail
 obtain⟨W,hW,hL⟩:=A.o.named;refine z0G hW ?_;have HL:=z7 hL;clear hL hW hs hz f0 f1 f2 f3 f4 f5 f6 f7 f8 f9 R ff l1 l0;refine q6 8 81 (fun D v w'=>Below W.heap.size W w') (Below.refl _ _).drew ?_;simp only[z0v];iterate 8 (refine q8.rd (e:=?_) (fun D v w' hD hS=>?_) ?_;rotate_left;(have a1:=HL.o.call hS;obtain⟨f0,f1,f2,f3,f4,f5,f6,f7,f8,f9,R,ff⟩:=z0o (a1.get 1 rfl);have l1:=a1.lt 1 rfl;have aA:z0z w' U bb ep:=(a1.old J id).trans HR.o;obtain⟨r0,r1,rf⟩:=aA.cells;have lr:=aA.lt;clear aA a1;clear hS hD;go_simp;try with_reducible rfl);go_simp)
 refine q8.fin (fun v w1 hS=>?_);have I:=z7 (HL.o.call hS);clear hS;by_cases he:epoch<ep
 ·have d4:decide ((epoch:Int)<(ep:Int))=true:=decide_eq_true (by omega);have hs:=z7 (z0w (I.o.get 0 rfl) (n:=12) rfl);have hz:=z7 (z0y (I.o.get 0 rfl));go_wp2_with (refine z0f rfl 84 _ _ rfl (w.heap.size+1) 0 rfl z1b rfl hs.o hz.o z0O (by simp[Value.oneCell']) ?_);have Y:=I.o.lay (K':= [(w.heap.size+1,.cells z1b 84 (0,0)),(w.heap.size,.cells #[.int .u8 1,.int .u32 epoch,.int .u32 series,.int .u32 ck,.int .u32 pb,.int .u32 pc,.int .u32 cnt,.bool closed,.int .u64 sum,.slice a n c,.int .i64 fn] 51 (0,0))]) 0 0 (z1b:Array Value).toList rfl rfl rfl rfl;have O:=z7 Y;clear Y;refine bodyPost_ret (z4k rfl rfl (O.o.get 0 rfl) z2o z0O) rfl ?_;exact⟨O.o.low.mono (fun _ h=>h.elim),.inl ⟨he,(O.o.old J id).trans HR.o,rfl⟩⟩
 ·have d4:decide ((epoch:Int)<(ep:Int))=false:=decide_eq_false (by omega);obtain⟨f0,f1,f2,f3,f4,f5,f6,f7,f8,f9,R,ff⟩:=z0o (I.o.get 1 rfl);have l1:=I.o.lt 1 rfl;have a2:z0z w1 U bb ep:=(I.o.old J id).trans HR.o;obtain⟨r0,r1,rf⟩:=a2.cells;have lr:=a2.lt;go_upto_region 7 with fail
  have a8:=(I.o.mono (S':=fun k=>k=U) (fun _ h=>h.elim)).put 1 (.int .u32 epoch) rfl J;have a9:z0z (w1.setCell ⟨U,1,none⟩ (.int .u32 epoch)) U bb epoch:=z0a a2 1 (.int .u32 epoch);obtain⟨w2,aB⟩:=zN (w1.setCell ⟨U,1,none⟩ (.int .u32 epoch));refine z0G aB ?_;rw[<-aB]at a8 a9;have N:=z7 a8;have aF:=z7 a9;clear a8 a9 aB a2 r0 r1 rf lr f0 f1 f2 f3 f4 f5 f6 f7 f8 f9 R ff l1 HL I A;obtain⟨f0,f1,f2,f3,f4,f5,f6,f7,f8,f9,R,ff⟩:=z0o (N.o.get 1 rfl);have l1:=N.o.lt 1 rfl;go_wp2_with fail;refine(aC.o w2 (H.o w2 N.o.low) aF.o).mono ?_;rintro e w3 ⟨ha,hn,hc,L,rfl,aI,aH,a4,a6,hb⟩;have a7:=z7 (N.o.call hb);have aM:=z7 (aF.o.low hb);have a3:=z7 a6;have aL:=z7 aI;have aE:=z7 a4;have aO:=N.o.lt 0 rfl;have aN:=z7 (show w.heap.size<=w2.heap.size from N.o.low.size);clear hb a6 aI a4 f0 f1 f2 f3 f4 f5 f6 f7 f8 f9 R ff l1;have hs:=z7 (z0w (a7.o.get 0 rfl) (n:=12) rfl);have hz:=z7 (z0y (a7.o.get 0 rfl));go_wp2_with (refine z0f rfl 84 _ _ rfl (w.heap.size+1) 0 rfl z1b rfl hs.o hz.o z0O (by simp[Value.oneCell']) ?_);have Y:=a7.o.lay (K':= [(w.heap.size+1,.cells z1b 84 (0,0)),(w.heap.size,.cells #[.int .u8 1,.int .u32 epoch,.int .u32 series,.int .u32 ck,.int .u32 pb,.int .u32 pc,.int .u32 cnt,.bool closed,.int .u64 sum,.slice a n c,.int .i64 fn] 51 (0,0))]) 0 0 (z1b:Array Value).toList rfl rfl rfl rfl;have O:=z7 Y;clear Y
  refine bodyPost_ret (z4k rfl rfl (O.o.get 0 rfl) z2o z0O) rfl ?_;refine⟨O.o.low,.inr ⟨he,_,rfl,(z1w (by omega) _ _ _).trans aM.o,ha,hn,hc,L,rfl,aL.o,aH,aE.o,?_⟩⟩;refine z0c (j7 a3.o fun k hk=>z1w (fun e=>?_) _ _ _) aN.o;have:=(a3.o.lt k hk).1;omega
def q3V(rb bb ep:Nat)(f:Fr)(N:Nat)(p:Array Value)(B:Bool)(x:Int)(P:Value->World->Prop):Prop:=
 p=z1b/\B=false/\((f.epoch<ep/\x=170/\P=fun s w'=>z0z w' rb bb ep/\s= .slice none 0 0)\/(¬f.epoch<ep/\x=0/\P=q6a rb bb f.epoch N))
theorem q1J(I bb ep:Nat)(f:Fr)(N:Nat):∃p B x P,q3V I bb ep f N p B x P/\p.size=12/\p.all (·.oneCell')=true/\
  ∀w e w',N<=w.heap.size->I<w.heap.size->y3V I bb ep f w e w'->∃(sl:Value) (G:Nat->Prop),e= .returned (.tuple #[.agg p,.bool B,sl,.int .u16 x])/\z0t (fun k=>k=I) w w'/\Kept G w' (P sl)/\∀k,G k->k=I\/(w.heap.size<=k/\k<w'.heap.size):=by
 by_cases he:f.epoch<ep
 ·refine⟨z1b,false,170,_,⟨rfl,rfl,.inl ⟨he,rfl,rfl⟩⟩,rfl,by simp[Value.oneCell'],fun w e w' hN Y ht=>?_⟩;obtain⟨R,⟨-,U,rfl⟩|⟨hn, -⟩⟩:=ht
  ·exact⟨_,fun k=>k=I,rfl,R,fun a0 A=>⟨(A I rfl).trans U,rfl⟩,fun k A=> .inl A⟩
  ·exact absurd he hn
 ·refine⟨z1b,false,0,_,⟨rfl,rfl,.inr ⟨he,rfl,rfl⟩⟩,rfl,by simp[Value.oneCell'],fun w e w' hN Y ht=>?_⟩;obtain⟨R,⟨J, -⟩|⟨-,sl,rfl,U,ga,gn,gc,L,rfl,J,h2,h3,h4⟩⟩:=ht
  ·exact absurd J he
  ·refine⟨_,fun k=>k=I\/(Value.slice ga gn gc).ownBlock=some k,rfl,R,fun a0 A=>⟨(A I (.inl rfl)).trans U,ga,gn,gc,L,rfl,J,h2,h3,z0c (j7 h4 fun k O=>A k (.inr O)) hN⟩,fun k A=>?_⟩;rcases A with A|A
   ·exact .inl A
   ·exact .inr (h4.lt k A)
theorem z9l{w:World}{B e size g n c:Nat}{L:List Value}(h:w.ownsRow B e size (.slice (some ⟨g,0,none⟩) n c) n L){j:Nat}{v:Value}(O:L[j]? =some v):w.cell? ⟨g,j,none⟩=some v:=by
 rcases(z0e h).2 with⟨I, -⟩|⟨R,U,I,N⟩
 ·cases I
 ·rw[Value.slice.injEq]at I;have J:=N j v O;rw[<-Option.some.inj I.1]at J;have A:(⟨g,0,none⟩:Addr).add j=⟨g,j,none⟩:=by unfold Addr.add;split<;>simp_all
  rwa [A]at J
theorem q0d(a:Option Addr)(c:Nat)(w:World):
  Calls prog 31 #[.slice a 0 c] w fun e w'=>∃a m B A,e= .returned (.slice a m B)/\m=A.length/\z0I w.heap.size w' (.slice a m B) A/\A.map Prod.snd= []/\Below w.heap.size w w':=by
 go_enter func31,ntmps31;go_wp2_with fail;go_loopw[3,10] (fun I kv wr=>I= .slice none 0 0/\kv= .int .i64 0/\wr=w) (fun _ _ _=>0)
 case atStart=>exact⟨rfl,rfl,rfl⟩
 case round=>
  obtain⟨rfl,rfl,rfl⟩:=hrel;go_wp2;go_ret;exact⟨none,0,0, [],rfl,rfl,z0I.none _ _,rfl,Below.refl _ _⟩
theorem y3H(a:Option Addr)(n c B:Nat)(L:List Fr)(U:∀f∈L,f.Ok/\f.b= [])(hn:n<=64)(A:n=L.length)(w:World)(h:w.ownsRow B 51 11 (.slice a n c) n (z4V L)):
  Calls prog 31 #[.slice a n c] w fun e w'=>∃a m N J,e= .returned (.slice a m N)/\m=J.length/\z0I w.heap.size w' (.slice a m N) J/\J.map Prod.snd=L.map z6N/\Below w.heap.size w w':=by
 cases hL0:L with
 | nil=>
  rw[hL0]at A;subst A;exact q0d a c w
 | cons y l=>
  rw[<-hL0];have a0:0<n:=by rw[A,hL0];simp
  obtain⟨g,cap,R, -⟩:=z2z h (fun e=>by simp only[Value.slice.injEq]at e;omega);simp only[Value.slice.injEq,true_and]at R;obtain⟨rfl, -⟩:=R;refine y1T g n c L U (by omega) w ⟨A,fun k f Y=>?_⟩;refine⟨(h.lt g rfl).2,fun j v O=>?_⟩;have I:j<11:=(Array.getElem?_eq_some_iff.1 O).1;refine z9l h ?_;unfold z4V;rw[z6I (fun f=>(j9 f (.slice none 0 0)).toList) 11 (fun _=>rfl) L k f Y j I,Array.getElem?_toList];exact O
def q5t(kb bb sb ep:Nat)(f:Fr)(b:z0j)(s:FsS)(U:Nat->Prop)(w:World)(e:Ending)(w':World):Prop:=
 ∃R,y3N kb bb sb R U w e w'/\((f.epoch<ep/\R=(170, [],b,ep,s))\/(¬f.epoch<ep/\∃L,R=(0,L,b,f.epoch,s)))
theorem q1B(kb U bb tb mb sb B ep:Nat)(E:List (Int×z0C))(S:Nat->Prop)(F:List Nat)(b:z0j)(s:FsS)(a:Option Addr)(n c:Nat)(bs:List UInt8)(f:Fr)(hn:n=bs.length)(hc:n<=c)(bF:c<=9223372036854775807)(hd:z7z bs=0)(aD:z6W bs=f)(b3:f.kind=1)(cG:ep<4294967296)(bG:∀id,(z0g b id).done.length<=1000000000)(w:World)(h:KIn w kb U bb tb mb sb B E S F b ep s)(hx:RdB w (.slice a n c) bs):
  Calls prog 10 #[.pointer (some ⟨kb,0,none⟩),.slice a n c] w (q5t kb bb sb ep f b s (KU U S F) w):=by
 have hf:f.Ok:=by rw[<-aD];exact y6A bs
 have a9:=z7 (z9v a c bs w (by rw[<-hn];exact hx) (by omega) (by omega) bF);rw[hd,aD,<-hn]at a9;obtain⟨N0,b8⟩:=zN w.heap.size;obtain⟨fl,aW⟩:=zN f.b.length;have a2:=a9.o;unfold Told at a2;rw[<-aW]at a2;have a9:=z7 a2;clear a2;have H:=z7 h;have HF:=z7 hf;have cE:=z7 b8;have cC:=z7 aW;have cJ:=h.r.lt;have cI:=h.k.lt;clear h hx hd aD hn hc bF hf b8 aW;go_enter func10,ntmps10;go_wp2_with fail;refine a9.o.mono ?_;rintro e w1 ⟨a1,c1,rfl,aL,bA,a7⟩;obtain⟨C,hC⟩:=zN (j9 f (.slice a1 fl c1));have a4:C.size=11:=by rw[hC];rfl
 have bY:C.all (·.oneCell')=true:=by rw[hC];unfold j9;simp[Value.oneCell']
 have b0:frV f (.slice a1 fl c1)= .agg C:=by rw[hC];rfl
 have bH:(prog.info? 51).map (·.size)=some C.size:=by rw[a4];exact z0B
 rw[b0];have HC:=z7 hC;have bT:=z7 b0;have cF:=z7 aL;have aS:=z7 bA;have c9:=z7 a7;clear hC b0 aL bA a7;go_upto_region 4 with(refine z0f rfl 51 _ _ rfl w1.heap.size 0 rfl C rfl (fun j hj=>by exact z0w (j8 w1 _) (n:=C.size) (by rw[a4];rfl) j hj) (by exact z0y (j8 w1 _)) bH bY ?_;rw[z3x _ _ _ _ (by rw[Array.length_toList,a4];rfl)])
 have a5:Below w.heap.size w (w1.alloc (.cells C 51)):=aS.o.trans ((q5 w1 _).mono aS.o.size);obtain⟨W,hW,aY⟩:=(((z0K.start (KU U S F) w).go (S':=fun _=>False) (z0t.of_below aS.o) (fun _ h=>h.elim) (fun p hp=>by cases hp)).new (.cells C 51)).named;refine z0G hW ?_;rw[<-hW]at a5;obtain⟨p6,bN⟩:=zN w1.heap.size;rw[<-bN]at aY ⊢;have aF:=H.o.low a5;obtain⟨p,Bo,x,P,N,aJ,c5,aA⟩:=q1J U bb ep f W.heap.size;have R:=z7 (fun w' (h1:z0q w' bb mb E b B S) (h2:z0z w' U bb ep)=>q0W U bb mb B ep E b S f a1 fl c1 HF.o b3 bG w' h1 h2 H.o.rS);have aU:=R.o;rw[bT.o]at aU;have R:=z7 aU;have a3:=z7 aY;have Y:=z7 aF;have aA:=z7 aA;have N:=z7 N;have b4:=aF.r.lt;have bW:=aF.k.lt;have cA:=a5.size;have cB:=z7 a5;have bZ:=z7 (show(prog.info? 84).map (·.size)=some p.size by rw[aJ];exact z0O);clear hW aY bN aF aU a5;refine q6 16 58 (fun D v w'=>LkS W U p (.bool Bo) (.int .u16 x) P D v w') (LkS.start _ _ _ _ _ _) ?_;simp only[z0v];iterate 4 (refine q8.rl (e:=?_) (fun D v w h=>h.read _ (by decide) (by decide) (by decide) (by decide) (by decide) (by decide)) (fun D v w' I A=>?_) ?_;rotate_left;(have b2:z2B w' kb U bb tb:=(A.low.block kb bW H.o.kr).trans Y.o.k;obtain⟨k0,k1,k2,kf⟩:=b2.cells;have lk:=b2.lt;clear b2;clear A I;go_simp;try with_reducible rfl);go_simp)
 refine q8.rl (.agg C) (fun D v w h=>h.read _ (by decide) (by decide) (by decide) (by decide) (by decide) (by decide)) (fun D v w' I A=>z1o _ _ rfl p6 0 rfl _ (z1X ((A.low.block p6 (a3.o.lt 0 rfl) (fun e=>by have:=a3.o.ge 0 rfl;omega)).trans (a3.o.get 0 rfl))) z1y bH) ?_;go_simp;refine q8.re (fun D v w' I A=>?_) ?_
 ·have d5:=z7 I.self;have J:=A.low;have bE:=Y.o.bk.only J (fun k hk e=>H.o.rS (by subst e;exact hk));have bO:z0z w' U bb ep:=(A.q0 d5.o).trans Y.o.r;have aZ:=z7 (R.o w' bE bO);have HZ:=z7 A;have c7:=J.size;clear A I J bE bO;go_simp;go_at_call 30;refine aZ.o.mono ?_;intro e c8 ht;obtain⟨sl,G,rfl,ho,hP,hG⟩:=aA.o w' e c8 c7 (by omega) ht;exact HZ.o.call d5.o b4 ho sl G hP hG
 go_simp;refine q8.re (fun D v w' I A=>?_) ?_
 ·have d:=I.pre 5 (by kernel_rfl);have a0:=z7 (A.move d);clear A I;go_simp;exact a0.o
 go_simp;refine q8.rl (.agg p) (fun D v w h=>h.read _ (by decide) (by decide) (by decide) (by decide) (by decide) (by decide)) (fun D v w' I A=>?_) ?_
 ·obtain⟨d,hm⟩:=A.m (I.pre 6 (by kernel_rfl));obtain⟨sl,G,hp, -⟩:=A.c d;rw[hp]at hm;clear A I hp;go_simp
 go_simp;refine q8.rl (.bool Bo) (fun D v w h=>h.read _ (by decide) (by decide) (by decide) (by decide) (by decide) (by decide)) (fun D v w' I A=>?_) ?_
 ·obtain⟨d,hm⟩:=A.m (I.pre 6 (by kernel_rfl));obtain⟨sl,G,hp, -⟩:=A.c d;rw[hp]at hm;clear A I hp;go_simp
 go_simp;refine q8.re (fun D v w' I A=>?_) ?_
 ·obtain⟨d,hm⟩:=A.m (I.pre 6 (by kernel_rfl));obtain⟨sl,G,hp, -⟩:=A.c d;have bX:D 14=false:=I.post 14 _ rfl (by kernel_rfl);have a0:=z7 (A.ext d (u:=sl) (by rw[hp];rfl) bX);rw[hp]at hm;clear A I hp;go_simp;exact a0.o
 go_simp;refine q8.rl (.int .u16 x) (fun D v w h=>h.read _ (by decide) (by decide) (by decide) (by decide) (by decide) (by decide)) (fun D v w' I A=>?_) ?_
 ·obtain⟨d,hm⟩:=A.m (I.pre 6 (by kernel_rfl));obtain⟨sl,G,hp, -⟩:=A.c d;rw[hp]at hm;clear A I hp;go_simp
 go_simp;refine q8.re (fun D v w' I A=>?_) ?_
 ·have aE:D 12=false:=I.post 12 _ rfl (by kernel_rfl);have a0:=z7 (A.make b4 aE);clear A I;go_simp;exact a0.o
 go_simp;refine q8.ca undef (fun D v w' I A=>?_) ?_
 ·have d5:=I.pre 5 (by kernel_rfl);have b6:=I.pre 11 (by kernel_rfl);have aE:D 12=false:=I.self;obtain⟨g,hg, -,b1⟩:=A.al b6;rw[aE]at b1;refine z1P _ _ _ rfl g 0 hg p rfl (fun j hj=>z0w b1 (n:=12) rfl j (by omega)) (z0y b1) bZ.o c5 ?_;exact⟨undef,rfl,rfl,A.store b4 d5 b6 aE hg aJ⟩
 go_simp;iterate 1 (refine q8.rl (e:=?_) (fun D v w h=>h.read _ (by decide) (by decide) (by decide) (by decide) (by decide) (by decide)) (fun D v w' I A=>?_) ?_;rotate_left;(clear A I;go_simp;try with_reducible rfl);go_simp)
 refine q8.re (fun D v w' I A=>?_) ?_
 ·have d:=I.pre 9 (by kernel_rfl);have a0:=z7 (A.asg d);clear A I;go_simp;exact a0.o
 go_simp;iterate 1 (refine q8.rl (e:=?_) (fun D v w h=>h.read _ (by decide) (by decide) (by decide) (by decide) (by decide) (by decide)) (fun D v w' I A=>?_) ?_;rotate_left;(clear A I;go_simp;try with_reducible rfl);go_simp)
 refine q8.fin (fun v w5 A=>?_);obtain⟨g8,aO,cH,aI⟩:=A.al rfl;have bC:w5.heap[g8]? =some (.cells p 84 (0,0)):=aI;obtain⟨sl,G,bR,hP, -⟩:=A.c rfl;have aR:v 14=sl:=by
  have h1:=(A.a rfl).2;have h2:=(A.e rfl).2;rw[h1,h2,bR];rfl
 rw[aO,aR];have J:=A.low;have O:=(a3.o.go (S':=fun k=>k=U) J (fun k hk=> .inl (.inl hk)) (fun q hq e=>by
  simp only[List.mem_singleton]at hq;subst hq;have:=a3.o.ge 0 rfl;have e':p6=U:=e;omega))
 have O:=O.cons bC (by omega) (fun q hq=>by
  simp only[List.mem_singleton]at hq;subst hq;have:=a3.o.lt 0 rfl;show p6≠g8;omega)
 have b7:∀aX,z0z w5 U bb aX->KIn w5 kb U bb tb mb sb B E S F b aX s:=fun aX hr=>H.o.upd O.low hr (Y.o.bk.only J (fun k hk e=>H.o.rS (by subst e;exact hk))) (Y.o.fs.same (fun k hk=>J.block k (Y.o.fs.lt k hk) (fun e=>H.o.rF (by subst e;exact hk))) J.size) H.o.ok (fun _ h=> .inl h) (fun _ h=> .inl h) H.o.sF;have aG:=z7 O;have aT:=z7 b7;have aB:=z7 hP.now;have aN:=O.low.size;clear A aO aR bR hP aI bC J O b7 R aA Y;obtain⟨rfl,rfl,⟨he,rfl,rfl⟩|⟨he,rfl,rfl⟩⟩:=N.o
 ·have b9:=aB.o;simp only at b9;obtain⟨a8,rfl⟩:=b9;have aC:=z7 a8;clear a8 N aB;go_wp2;go_ret2;exact⟨(170, [],b,ep,s),⟨KU U S F,⟨U,tb,mb,B,E,S,F,aT.o ep aC.o,rfl⟩,aG.o.low,fun x h=> .inl h,.inl ⟨by simp,rfl⟩⟩,.inl ⟨he,rfl⟩⟩
 ·obtain⟨a8,ga,gn,gc,L,rfl,bJ,bI,aH,aM⟩:=aB.o;have bD:=z7 (y3H ga gn gc _ L aH bI bJ w5 aM);have aC:=z7 a8;clear a8 N aB aM aH bJ;go_wp2_with (refine bD.o.mono ?_;rintro e w6 ⟨a6,m6,c6,xs,rfl,bL,bM,bS,bB⟩;have bU:=z7 bL;have aV:=z7 bM;have bV:=z7 bS;have b5:=z7 bB;clear bL bM bS bB);go_ret2;exact⟨(0,L.map z6N,b,f.epoch,s),⟨KU U S F,⟨U,tb,mb,B,E,S,F,(aT.o _ aC.o).low b5.o,rfl⟩,(aG.o.call b5.o).low,fun x h=> .inl h,.inr ⟨rfl,a6,m6,c6,xs,rfl,bU.o,⟨z0c aV.o.row aN,fun x hx=>z0c (aV.o.ent x hx) aN⟩,bV.o,fun j hj hu=>by have h1:=aV.o.ge hj;have h2:=(aT.o _ aC.o).lt hu;omega⟩⟩,.inr ⟨he,_,rfl⟩⟩
theorem q0o(kb rb bb tb mb sb B ep:Nat)(E:List (Int×z0C))(S:Nat->Prop)(F:List Nat)(b:z0j)(s:FsS)(a:Option Addr)(n c:Nat)(L:List UInt8)(hn:n=L.length)(hc:n<=c)(a0:c<=9223372036854775807)(hd:z7z L≠0)(w:World)(h:KIn w kb rb bb tb mb sb B E S F b ep s)(hx:RdB w (.slice a n c) L):
  Calls prog 10 #[.pointer (some ⟨kb,0,none⟩),.slice a n c] w (y3N kb bb sb (z7z L, [],b,ep,s) (KU rb S F) w):=by
 have J:=z7 (z9v a c L w (by rw[<-hn];exact hx) (by omega) (by omega) a0);obtain⟨f,hf⟩:=zN (z6W L);obtain⟨en,N⟩:=zN (z7z L);rw[<-hf,<-N,<-hn]at J;rw[<-N]at hd ⊢;obtain⟨fl,a2⟩:=zN f.b.length;have A:=J.o;unfold Told at A;rw[<-a2]at A;have J:=z7 A;have H:=z7 h;have HD:=z7 hd;have d:(en !=0)=true:=by simp[hd]
 clear A h hx hn hc a0 hf N a2 hd;go_enter func10,ntmps10;go_wp2_with fail;refine J.o.mono ?_;rintro e w1 ⟨a1,c1,rfl,a4,U,O⟩;obtain⟨C,hC⟩:=zN (j9 f (.slice a1 fl c1));have I:C.size=11:=by rw[hC];rfl
 have a5:C.all (·.oneCell')=true:=by rw[hC];unfold j9;simp[Value.oneCell']
 have a3:frV f (.slice a1 fl c1)= .agg C:=by rw[hC];rfl
 have a6:(prog.info? 51).map (·.size)=some C.size:=by rw[I];exact z0B
 rw[a3];have R:=z7 U;clear hC a3 a4 U O;go_wp2_with (refine z0f rfl 51 _ _ rfl w1.heap.size 0 rfl C rfl (fun j hj=>by exact z0w (j8 w1 _) (n:=C.size) (by rw[I];rfl) j hj) (by exact z0y (j8 w1 _)) a6 a5 ?_;rw[z3x _ _ _ _ (by rw[Array.length_toList,I];rfl)]);go_ret2;have Y:Below w.heap.size w (w1.alloc (.cells C 51)):=R.o.trans ((q5 w1 _).mono R.o.size);exact⟨KU rb S F,⟨rb,tb,mb,B,E,S,F,H.o.low Y,rfl⟩,z0t.of_below Y,fun x h=> .inl h,.inl ⟨HD.o,rfl⟩⟩
theorem q1s{f:Fr}(h:z1D f=true):∃l:List Bool,z0R f.b l/\f.n=(l.length:Nat):=by
 unfold z1D at h;have none_:z4r f=true->∃l:List Bool,z0R f.b l/\f.n=(l.length:Nat):=fun B=>by
  unfold z4r at B;have I:z1Q f.b f.n=true:=by
   simp only[Bool.and_eq_true,decide_eq_true_eq]at B;have hb:f.b= []:=List.eq_nil_of_length_eq_zero (by omega);rw[hb,show f.n=((([]:List Bool).length:Nat):Int) by show f.n=0;omega];exact z2q ⟨rfl,by simp⟩
  exact y1o I
 have A:z4t f=true->∃l:List Bool,z0R f.b l/\f.n=(l.length:Nat):=fun B=>by
  unfold z4t at B;simp only[Bool.and_eq_true]at B;exact y1o B.1
 split at h
 ·exact none_ (Bool.and_eq_true_iff.1 h).1
 ·split at h
  ·exact none_ (Bool.and_eq_true_iff.1 h).1
  ·split at h
   ·exact A (Bool.and_eq_true_iff.1 h).2
   ·split at h
    ·exact A h
    ·cases h
theorem q3J{b:z0j}{ep:Nat}{f:Fr}{l:List Bool}(B:f.Ok)(A:ep<4294967296):(z3d b ep f l).2.2<4294967296:=by
 have:=B.epoch;unfold z3d
 repeat' split
 all_goals first|exact A|exact this
theorem y6K(kb rb bb tb mb sb B ep:Nat)(E:List (Int×z0C))(S:Nat->Prop)(F:List Nat)(b:z0j)(s:FsS)(a:Option Addr)(n c:Nat)(J:List UInt8)(hn:n=J.length)(a5:n<=4200)(hc:n<=c)(U:c<=9223372036854775807)(A:ep<4294967296)(O:∀id,(z0g b id).done.length<1000000000)(a2:∀x,x.length<=600->(wrS s x).1≠0->(wrS s x).2=s)(w:World)(h:KIn w kb rb bb tb mb sb B E S F b ep s)(hx:RdB w (.slice a n c) J):
  Calls prog 10 #[.pointer (some ⟨kb,0,none⟩),.slice a n c] w fun e w'=>∃R,y3N kb bb sb R (KU rb S F) w e w'/\(R.1≠0->∃a0,a0<4294967296/\R=(R.1, [],b,a0,s)):=by
 by_cases hd:z7z J=0
 ·obtain⟨f,hf⟩:=zN (z6W J);by_cases hk:f.kind=1
  ·refine(q1B kb rb bb tb mb sb B ep E S F b s a n c J f hn hc U hd hf.symm hk A (fun id=>Nat.le_of_lt (O id)) w h hx).mono ?_;rintro e w' ⟨R,Y,⟨-,rfl⟩|⟨-,L,rfl⟩⟩
   ·exact⟨_,Y,fun _=>⟨ep,A,rfl⟩⟩
   ·exact⟨_,Y,fun I=>absurd rfl I⟩
  ·have a1:f.Ok:=(by rw[hf];exact y6A J);obtain⟨h1,h2, -⟩:=q5H hd;rw[<-hf]at h1 h2;obtain⟨l,hb,hl⟩:=q1s h1;have a3:=hb.len;have a4:f.b.length<=4200:=by
    have h9:=congrArg List.length h2;have h8:=z4K f;omega
   refine(y0A kb rb bb tb mb sb B ep E S F b s a n c J f l hn hc U hd hf.symm hk hl hb (by omega) A (O _) w h hx).mono ?_;intro e w' Y;refine⟨_,Y,fun I=>?_⟩;unfold tkS at I ⊢;have N:=q3J (b:=b) (l:=l) a1 A;split
   ·exact⟨_,N,rfl⟩
   ·rename_i c1;rw[if_neg c1]at I;split
    ·rename_i c2;rw[if_pos c2]at I;exact absurd rfl I
    ·rename_i c2;rw[if_neg c2]at I;split
     ·rename_i c3;have hm:=(y2T b ep f l (Classical.byContradiction c1) (Classical.byContradiction c2)).1.2.2;exact⟨_,N,by rw[a2 _ (by rw[z9V];omega) c3]⟩
     ·rename_i c3;rw[if_neg c3]at I;exact absurd rfl I
 ·refine(q0o kb rb bb tb mb sb B ep E S F b s a n c J hn hc U hd w h hx).mono ?_;intro e w' Y;exact⟨_,Y,fun _=>⟨ep,A,rfl⟩⟩
end
